/- Laws on walking typed knowledge through code, and contracts. -/
import Derived.Test.YthfaleobmefibaaGreatM2
import Derived.Test.YthfaleobmefibaaGreatChecked
import Derived.KernelRfl

/- Steps that follow from the code alone. -/
namespace Go.Fl
open Go
section
variable {P:Program} {c:Ctx} {ops:Array Oper} {S:Slots} {M M0:Conts} {rest:List Oper} {Q:Exit→Act→World→Prop}
theorem jxT {d:Option Nat} {ty:TypeId} {pos:String} {af:Array Edge} {gd:Option (Nat×Bool)} (o:Op) (h:TrL P c ops S M (⟨d,o,ty,pos,af,gd⟩::rest) Q):TrL P c ops S M (⟨d,o,ty,pos,af,gd⟩::rest) Q:=h
theorem jxR {d:Option Nat} {ty:TypeId} {pos:String} {af:Array Edge} {gd:Option (Nat×Bool)} {m:Nat} (o:Op) (h:RunD P c ops Q M0 (⟨d,o,ty,pos,af,gd⟩::rest) m S M):RunD P c ops Q M0 (⟨d,o,ty,pos,af,gd⟩::rest) m S M:=h
theorem jxG {d:Option Nat} {ty:TypeId} {pos:String} {af:Array Edge} {gd:Nat×Bool} (o:Op) (h:TrL P c ops S M (⟨d,o,ty,pos,af,some gd⟩::rest) Q):TrL P c ops S M (⟨d,o,ty,pos,af,some gd⟩::rest) Q:=h
theorem jxH {d:Option Nat} {ty:TypeId} {pos:String} {af:Array Edge} {gd:Nat×Bool} {m:Nat} (o:Op) (h:RunD P c ops Q M0 (⟨d,o,ty,pos,af,some gd⟩::rest) m S M):RunD P c ops Q M0 (⟨d,o,ty,pos,af,some gd⟩::rest) m S M:=h
theorem jc {f:FuncId} [TyFn P f] {args:List Operand} {tys:Array TypeId} {ks:List Know} {res:Know} {d:Nat} {ty:TypeId} {pos:String} {af:Array Edge} (hct:Ct P f ks res) [KDep res []] (K:TrL P c ops (⟨d,true,[],res⟩::S) M rest Q) (ha:ArgsOk S true args ks:=by repeat first | exact .nil | refine .a rfl (fun _=>rfl) ?_ | refine .s rfl (fun _=>rfl) rfl ?_ | refine .se rfl (fun _=>rfl) rfl rfl ?_) (hn:Nat.blt d c.n=true:=by rfl):TrL P c ops S M (⟨some d,.call { callee:=.value (.func f),args:=args.toArray,argTypes:=tys },ty,pos,af,none⟩::rest) Q:=TrL.op (ok_call (fun _=>hct) ha) rfl hn K
theorem jd {f:FuncId} [TyFn P f] {args:List Operand} {tys:Array TypeId} {ks:List Know} {res:Know} {d m:Nat} {ty:TypeId} {pos:String} {af:Array Edge} (hct:Ct P f ks res) [KDep res []] (K:RunD P c ops Q M0 rest m (⟨d,true,[],res⟩::S) M) (ha:ArgsOk S true args ks:=by repeat first | exact .nil | refine .a rfl (fun _=>rfl) ?_ | refine .s rfl (fun _=>rfl) rfl ?_ | refine .se rfl (fun _=>rfl) rfl rfl ?_) (hn:Nat.blt d c.n=true:=by rfl):RunD P c ops Q M0 (⟨some d,.call { callee:=.value (.func f),args:=args.toArray,argTypes:=tys },ty,pos,af,none⟩::rest) (m+1) S M:=RunD.op (ok_call (fun _=>hct) ha) rfl hn K
theorem jb {el:TypeId} {x:Operand} {k:Know} {ks:List Know} {dep:List Nat} {d:Nat} {ty:TypeId} {pos:String} {af:Array Edge} (t:Nat) (hx:opK S x=some (true,k)) [CellsK k ks] [KsDep ks dep] (K:TrL P c ops (⟨d,true,[t],kOwn t 0⟩::S) (⟨t,dep,cBlk ks⟩::M) rest Q) (hs:subT dep (tags M)=true:=by rfl) (hcs:subT dep (tags (⟨t,dep,cBlk ks⟩::M))=true:=by rfl) (hd:subT [t] (tags (⟨t,dep,cBlk ks⟩::M))=true:=by rfl) (hf:subT [t] (tags M)=false:=by rfl) (hn:Nat.blt d c.n=true:=by rfl):TrL P c ops S M (⟨some d,.box el x,ty,pos,af,none⟩::rest) Q:=TrL.new (ok_box t hx (fun _=>rfl) hs) hd hcs hf hn K
theorem ja {el:TypeId} {ks:List Know} {d:Nat} {ty:TypeId} {pos:String} {af:Array Edge} (t:Nat) [TyZero P el ks] [KsDep ks []] (K:TrL P c ops (⟨d,true,[t],kOwn t 0⟩::S) (⟨t,[],cBlk ks⟩::M) rest Q) (hd:subT [t] (tags (⟨t,[],cBlk ks⟩::M))=true:=by rfl) (hf:subT [t] (tags M)=false:=by rfl) (hn:Nat.blt d c.n=true:=by rfl):TrL P c ops S M (⟨some d,.alloc el,ty,pos,af,none⟩::rest) Q:=TrL.new (ok_alloc t) hd rfl hf hn K
theorem jq {x:Operand} {t f:Code} {p:Prop} [Decidable p] (ht:p→Tr P c S M t Q) (hf:¬p→Tr P c S M f Q) (hl:opK S x=some (true,kB (decide p)):=by rfl):Tr P c S M (.cond x t f) Q:=Tr.cnd hl (fun h=>ht (of_decide_eq_true h)) (fun h=>hf (of_decide_eq_false h))
theorem nC0 {α:Type}:([]:List α)=[]:=rfl
theorem nC {s:Nat} {b:Bool} {d:List Nat} {k:Know} {S S':Slots} (h:S=S'):(⟨s,b,d,k⟩::S:Slots)=⟨s,b,d,k⟩::S':=by rw[h]
theorem nM {t:Nat} {d:List Nat} {k:Cont} {S S':Conts} (h:S=S'):(⟨t,d,k⟩::S:Conts)=⟨t,d,k⟩::S':=by rw[h]
theorem jn {x:Code} {S':Slots} {M':Conts} (h:Tr P c S' M' x Q) (hS:S=S':=by repeat first | apply nC | exact nC0) (hM:M=M':=by repeat first | apply nM | exact nC0):Tr P c S M x Q:=Tr.norm hS hM h
theorem jl {S':Slots} {M':Conts} (h:TrL P c ops S' M' rest Q) (hS:S=S':=by repeat first | apply nC | exact nC0) (hM:M=M':=by rfl):TrL P c ops S M rest Q:=TrL.norm hS hM h
theorem je {S':Slots} {M':Conts} (h:End c S' M' Q) (hS:S=S':=by repeat first | apply nC | exact nC0) (hM:M=M':=by repeat first | apply nM | exact nC0):End c S M Q:=End.norm hS hM h
theorem zk {p:Prop} (h:p:=by repeat first | exact SSub.nil | exact CSub.nil | exact RetOk.nil | refine SSub.k rfl rfl ?_ | refine CSub.k rfl ?_ | refine RetOk.k rfl ?_):p:=h
end
theorem jx1 {A B:Prop} (h:A) (K:(Unit→A)→B:=by
 intro h
 first
 | with_reducible refine Tr.seq ?_
 | with_reducible refine Tr.rg ?_
 | with_reducible refine TrL.fin ?_
 | with_reducible refine End.nxt ?_
 | with_reducible refine Tr.skip ?_
 | with_reducible refine Tr.blk ?_
 | with_reducible refine End.blk ?_
 | with_reducible refine Tr.ret ?_
 | with_reducible refine Rts.thn ?_
 | with_reducible refine Rts.out ?_
 | with_reducible refine Exs.thn ?_
 | with_reducible refine RunD.z ?_
 | with_reducible refine Tr.exit ?_
 | with_reducible refine Exs.here ?_
 | with_reducible refine Exs.out rfl ?_
 | (with_reducible refine jxG _ ?_); first
  | (with_reducible refine jxT (.move _) ?_); first | refine TrL.gd rfl rfl rfl (ok_move rfl (by first | exact id | exact fun _=>rfl)) rfl rfl ?_
  | (with_reducible refine jxT (.assign _) ?_); first | refine TrL.gd rfl rfl rfl (ok_assign rfl (by first | exact id | exact fun _=>rfl)) rfl rfl ?_
  | (with_reducible refine jxT (.call _) ?_); first | refine TrL.gd rfl rfl rfl (ok_lenJ rfl (by first | exact id | exact fun _=>rfl)) rfl rfl ?_
  | (with_reducible refine jxT (.fieldAddr _ _ _) ?_); first | refine TrL.gd rfl rfl rfl (ok_fldO rfl (by first | exact id | exact fun _=>rfl)) rfl rfl ?_ | refine TrL.gd rfl rfl rfl (ok_fldP rfl (by first | exact id | exact fun _=>rfl) rfl) rfl rfl ?_
  | (with_reducible refine jxT (.unOp .not _ _) ?_); first | refine TrL.gd rfl rfl rfl (ok_not rfl (by first | exact id | exact fun _=>rfl)) rfl rfl ?_
  | (with_reducible refine jxT (.load _ _) ?_); first | refine TrL.gd rfl rfl rfl (ok_ldP rfl (by first | exact id | exact fun _=>rfl) rfl) rfl rfl ?_ | refine TrL.gd rfl rfl rfl (ok_ldB rfl (by first | exact id | exact fun _=>rfl) rfl) rfl rfl ?_ | refine TrL.gd rfl rfl rfl (ok_ldPA rfl (by first | exact id | exact fun _=>rfl) rfl rfl) rfl rfl ?_ | refine TrL.gd rfl rfl rfl (ok_ldBS rfl (by first | exact id | exact fun _=>rfl)) rfl rfl ?_ | refine TrL.gd rfl rfl rfl (ok_ldE rfl (by first | exact id | exact fun _=>rfl) rfl rfl rfl) rfl rfl ?_
  | (with_reducible refine jxT (.extract _ _) ?_); first | refine TrL.gd rfl rfl rfl (ok_ext rfl (by first | exact id | exact fun _=>rfl) rfl) rfl rfl ?_
  | (with_reducible refine jxT (.binOp .lss _ _ _ _) ?_); first | refine TrL.gd rfl rfl rfl (ok_lss rfl (by first | exact id | exact fun _=>rfl) rfl (by first | exact id | exact fun _=>rfl)) rfl rfl ?_
  | (with_reducible refine jxT (.binOp .neq _ _ _ _) ?_); first | refine TrL.gd rfl rfl rfl (ok_neq rfl (by first | exact id | exact fun _=>rfl) rfl (by first | exact id | exact fun _=>rfl)) rfl rfl ?_
  | (with_reducible refine jxT (.binOp .eql _ _ _ _) ?_); first | refine TrL.gd rfl rfl rfl (ok_eql rfl (by first | exact id | exact fun _=>rfl) rfl (by first | exact id | exact fun _=>rfl)) rfl rfl ?_
  | (with_reducible refine jxT (.binOp .gtr _ _ _ _) ?_); first | refine TrL.gd rfl rfl rfl (ok_gtr rfl (by first | exact id | exact fun _=>rfl) rfl (by first | exact id | exact fun _=>rfl)) rfl rfl ?_
  | (with_reducible refine jxT (.binOp .geq _ _ _ _) ?_); first | refine TrL.gd rfl rfl rfl (ok_geq rfl (by first | exact id | exact fun _=>rfl) rfl (by first | exact id | exact fun _=>rfl)) rfl rfl ?_
  | (with_reducible refine jxT (.binOp .leq _ _ _ _) ?_); first | refine TrL.gd rfl rfl rfl (ok_leq rfl (by first | exact id | exact fun _=>rfl) rfl (by first | exact id | exact fun _=>rfl)) rfl rfl ?_
  | (with_reducible refine jxT (.binOp .add _ _ _ _) ?_); first | refine TrL.gd rfl rfl rfl (ok_add rfl (by first | exact id | exact fun _=>rfl) rfl (by first | exact id | exact fun _=>rfl) (fun _=>by omega)) rfl rfl ?_
  | (with_reducible refine jxT (.binOp .sub _ _ _ _) ?_); first | refine TrL.gd rfl rfl rfl (ok_sub rfl (by first | exact id | exact fun _=>rfl) rfl (by first | exact id | exact fun _=>rfl) (fun _=>by omega)) rfl rfl ?_
  | (with_reducible refine jxT (.binOp .mul _ _ _ _) ?_); first | refine TrL.gd rfl rfl rfl (ok_mul rfl (by first | exact id | exact fun _=>rfl) rfl (by first | exact id | exact fun _=>rfl) (fun _=>by omega)) rfl rfl ?_
  | (with_reducible refine jxT (.indexAddr _ _ _) ?_); first | refine TrL.gd rfl rfl rfl (ok_idxN rfl (by first | exact id | exact fun _=>rfl) rfl (by first | exact id | exact fun _=>rfl) rfl (fun _=>by omega)) rfl rfl ?_ | refine TrL.gd rfl rfl rfl (ok_idxP rfl (by first | exact id | exact fun _=>rfl) rfl (by first | exact id | exact fun _=>rfl) rfl (fun _=>by omega)) rfl rfl ?_ | refine TrL.gd rfl rfl rfl (ok_idxEN rfl (by first | exact id | exact fun _=>rfl) rfl (by first | exact id | exact fun _=>rfl) (fun _=>by omega)) rfl rfl ?_ | refine TrL.gd rfl rfl rfl (ok_idxE rfl (by first | exact id | exact fun _=>rfl) rfl (by first | exact id | exact fun _=>rfl) (fun _=>by omega)) rfl rfl ?_
 | (with_reducible refine jxT _ ?_); first
  | (with_reducible refine jxT (.move _) ?_); first | refine TrL.op (ok_move rfl (fun _=>rfl)) rfl rfl ?_
  | (with_reducible refine jxT (.assign _) ?_); first | refine TrL.op (ok_assign rfl (fun _=>rfl)) rfl rfl ?_
  | (with_reducible refine jxT (.call _) ?_); first | refine TrL.op (ok_lenJ rfl (fun _=>rfl)) rfl rfl ?_ | refine TrL.app rfl rfl rfl rfl rfl rfl rfl rfl (by first | omega | (simp only[List.length_cons,List.length_nil]; omega)) (by first | omega | (simp only[List.length_cons,List.length_nil]; omega)) ?_
  | (with_reducible refine jxT (.fieldAddr _ _ _) ?_); first | refine TrL.op (ok_fldO rfl (fun _=>rfl)) rfl rfl ?_ | refine TrL.op (ok_fldP rfl (fun _=>rfl) rfl) rfl rfl ?_
  | (with_reducible refine jxT (.unOp .not _ _) ?_); first | refine TrL.op (ok_not rfl (fun _=>rfl)) rfl rfl ?_
  | (with_reducible refine jxT (.load _ _) ?_); first | refine TrL.op (ok_ldP rfl (fun _=>rfl) rfl) rfl rfl ?_ | refine TrL.op (ok_ldB rfl (fun _=>rfl) rfl) rfl rfl ?_ | refine TrL.op (ok_ldPA rfl (fun _=>rfl) rfl rfl) rfl rfl ?_ | refine TrL.op (ok_ldBS rfl (fun _=>rfl)) rfl rfl ?_ | refine TrL.op (ok_ldE rfl (fun _=>rfl) rfl rfl rfl) rfl rfl ?_
  | (with_reducible refine jxT (.extract _ _) ?_); first | refine TrL.op (ok_ext rfl (fun _=>rfl) rfl) rfl rfl ?_
  | (with_reducible refine jxT (.binOp .lss _ _ _ _) ?_); first | refine TrL.op (ok_lss rfl (fun _=>rfl) rfl (fun _=>rfl)) rfl rfl ?_
  | (with_reducible refine jxT (.binOp .neq _ _ _ _) ?_); first | refine TrL.op (ok_neq rfl (fun _=>rfl) rfl (fun _=>rfl)) rfl rfl ?_
  | (with_reducible refine jxT (.binOp .eql _ _ _ _) ?_); first | refine TrL.op (ok_eql rfl (fun _=>rfl) rfl (fun _=>rfl)) rfl rfl ?_
  | (with_reducible refine jxT (.binOp .gtr _ _ _ _) ?_); first | refine TrL.op (ok_gtr rfl (fun _=>rfl) rfl (fun _=>rfl)) rfl rfl ?_
  | (with_reducible refine jxT (.binOp .geq _ _ _ _) ?_); first | refine TrL.op (ok_geq rfl (fun _=>rfl) rfl (fun _=>rfl)) rfl rfl ?_
  | (with_reducible refine jxT (.binOp .leq _ _ _ _) ?_); first | refine TrL.op (ok_leq rfl (fun _=>rfl) rfl (fun _=>rfl)) rfl rfl ?_
  | (with_reducible refine jxT (.binOp .add _ _ _ _) ?_); first | refine TrL.op (ok_add rfl (fun _=>rfl) rfl (fun _=>rfl) (fun _=>by omega)) rfl rfl ?_
  | (with_reducible refine jxT (.binOp .sub _ _ _ _) ?_); first | refine TrL.op (ok_sub rfl (fun _=>rfl) rfl (fun _=>rfl) (fun _=>by omega)) rfl rfl ?_
  | (with_reducible refine jxT (.binOp .mul _ _ _ _) ?_); first | refine TrL.op (ok_mul rfl (fun _=>rfl) rfl (fun _=>rfl) (fun _=>by omega)) rfl rfl ?_
  | (with_reducible refine jxT (.indexAddr _ _ _) ?_); first | refine TrL.op (ok_idxN rfl (fun _=>rfl) rfl (fun _=>rfl) rfl (fun _=>by omega)) rfl rfl ?_ | refine TrL.op (ok_idxP rfl (fun _=>rfl) rfl (fun _=>rfl) rfl (fun _=>by omega)) rfl rfl ?_ | refine TrL.op (ok_idxEN rfl (fun _=>rfl) rfl (fun _=>rfl) (fun _=>by omega)) rfl rfl ?_ | refine TrL.op (ok_idxE rfl (fun _=>rfl) rfl (fun _=>rfl) (fun _=>by omega)) rfl rfl ?_
  | (with_reducible refine jxT (.pick _ _ _) ?_); first | refine TrL.op (ok_and rfl (fun _=>rfl) rfl (fun hp h=>gdT2 ((fun _=>rfl) hp) h)) rfl rfl ?_ | refine TrL.op (ok_or rfl (fun _=>rfl) rfl (fun hp h=>gdF2 ((fun _=>rfl) hp) h)) rfl rfl ?_
  | (with_reducible refine jxT (.store _ _ _) ?_); first | refine TrL.stB rfl rfl rfl rfl ?_ | refine TrL.stE rfl rfl rfl rfl rfl ?_
 | (with_reducible refine jxH _ ?_); first
  | (with_reducible refine jxR (.move _) ?_); first | refine RunD.gd rfl rfl rfl (ok_move rfl (by first | exact id | exact fun _=>rfl)) rfl rfl ?_
  | (with_reducible refine jxR (.assign _) ?_); first | refine RunD.gd rfl rfl rfl (ok_assign rfl (by first | exact id | exact fun _=>rfl)) rfl rfl ?_
  | (with_reducible refine jxR (.call _) ?_); first | refine RunD.gd rfl rfl rfl (ok_lenJ rfl (by first | exact id | exact fun _=>rfl)) rfl rfl ?_
  | (with_reducible refine jxR (.fieldAddr _ _ _) ?_); first | refine RunD.gd rfl rfl rfl (ok_fldO rfl (by first | exact id | exact fun _=>rfl)) rfl rfl ?_ | refine RunD.gd rfl rfl rfl (ok_fldP rfl (by first | exact id | exact fun _=>rfl) rfl) rfl rfl ?_
  | (with_reducible refine jxR (.unOp .not _ _) ?_); first | refine RunD.gd rfl rfl rfl (ok_not rfl (by first | exact id | exact fun _=>rfl)) rfl rfl ?_
  | (with_reducible refine jxR (.load _ _) ?_); first | refine RunD.gd rfl rfl rfl (ok_ldP rfl (by first | exact id | exact fun _=>rfl) rfl) rfl rfl ?_ | refine RunD.gd rfl rfl rfl (ok_ldB rfl (by first | exact id | exact fun _=>rfl) rfl) rfl rfl ?_ | refine RunD.gd rfl rfl rfl (ok_ldPA rfl (by first | exact id | exact fun _=>rfl) rfl rfl) rfl rfl ?_ | refine RunD.gd rfl rfl rfl (ok_ldBS rfl (by first | exact id | exact fun _=>rfl)) rfl rfl ?_ | refine RunD.gd rfl rfl rfl (ok_ldE rfl (by first | exact id | exact fun _=>rfl) rfl rfl rfl) rfl rfl ?_
  | (with_reducible refine jxR (.extract _ _) ?_); first | refine RunD.gd rfl rfl rfl (ok_ext rfl (by first | exact id | exact fun _=>rfl) rfl) rfl rfl ?_
  | (with_reducible refine jxR (.binOp .lss _ _ _ _) ?_); first | refine RunD.gd rfl rfl rfl (ok_lss rfl (by first | exact id | exact fun _=>rfl) rfl (by first | exact id | exact fun _=>rfl)) rfl rfl ?_
  | (with_reducible refine jxR (.binOp .neq _ _ _ _) ?_); first | refine RunD.gd rfl rfl rfl (ok_neq rfl (by first | exact id | exact fun _=>rfl) rfl (by first | exact id | exact fun _=>rfl)) rfl rfl ?_
  | (with_reducible refine jxR (.binOp .eql _ _ _ _) ?_); first | refine RunD.gd rfl rfl rfl (ok_eql rfl (by first | exact id | exact fun _=>rfl) rfl (by first | exact id | exact fun _=>rfl)) rfl rfl ?_
  | (with_reducible refine jxR (.binOp .gtr _ _ _ _) ?_); first | refine RunD.gd rfl rfl rfl (ok_gtr rfl (by first | exact id | exact fun _=>rfl) rfl (by first | exact id | exact fun _=>rfl)) rfl rfl ?_
  | (with_reducible refine jxR (.binOp .geq _ _ _ _) ?_); first | refine RunD.gd rfl rfl rfl (ok_geq rfl (by first | exact id | exact fun _=>rfl) rfl (by first | exact id | exact fun _=>rfl)) rfl rfl ?_
  | (with_reducible refine jxR (.binOp .leq _ _ _ _) ?_); first | refine RunD.gd rfl rfl rfl (ok_leq rfl (by first | exact id | exact fun _=>rfl) rfl (by first | exact id | exact fun _=>rfl)) rfl rfl ?_
  | (with_reducible refine jxR (.binOp .add _ _ _ _) ?_); first | refine RunD.gd rfl rfl rfl (ok_add rfl (by first | exact id | exact fun _=>rfl) rfl (by first | exact id | exact fun _=>rfl) (fun _=>by omega)) rfl rfl ?_
  | (with_reducible refine jxR (.binOp .sub _ _ _ _) ?_); first | refine RunD.gd rfl rfl rfl (ok_sub rfl (by first | exact id | exact fun _=>rfl) rfl (by first | exact id | exact fun _=>rfl) (fun _=>by omega)) rfl rfl ?_
  | (with_reducible refine jxR (.binOp .mul _ _ _ _) ?_); first | refine RunD.gd rfl rfl rfl (ok_mul rfl (by first | exact id | exact fun _=>rfl) rfl (by first | exact id | exact fun _=>rfl) (fun _=>by omega)) rfl rfl ?_
  | (with_reducible refine jxR (.indexAddr _ _ _) ?_); first | refine RunD.gd rfl rfl rfl (ok_idxN rfl (by first | exact id | exact fun _=>rfl) rfl (by first | exact id | exact fun _=>rfl) rfl (fun _=>by omega)) rfl rfl ?_ | refine RunD.gd rfl rfl rfl (ok_idxP rfl (by first | exact id | exact fun _=>rfl) rfl (by first | exact id | exact fun _=>rfl) rfl (fun _=>by omega)) rfl rfl ?_ | refine RunD.gd rfl rfl rfl (ok_idxEN rfl (by first | exact id | exact fun _=>rfl) rfl (by first | exact id | exact fun _=>rfl) (fun _=>by omega)) rfl rfl ?_ | refine RunD.gd rfl rfl rfl (ok_idxE rfl (by first | exact id | exact fun _=>rfl) rfl (by first | exact id | exact fun _=>rfl) (fun _=>by omega)) rfl rfl ?_
 | (with_reducible refine jxR _ ?_); first
  | (with_reducible refine jxR (.move _) ?_); first | refine RunD.op (ok_move rfl (fun _=>rfl)) rfl rfl ?_
  | (with_reducible refine jxR (.assign _) ?_); first | refine RunD.op (ok_assign rfl (fun _=>rfl)) rfl rfl ?_
  | (with_reducible refine jxR (.call _) ?_); first | refine RunD.op (ok_lenJ rfl (fun _=>rfl)) rfl rfl ?_
  | (with_reducible refine jxR (.fieldAddr _ _ _) ?_); first | refine RunD.op (ok_fldO rfl (fun _=>rfl)) rfl rfl ?_ | refine RunD.op (ok_fldP rfl (fun _=>rfl) rfl) rfl rfl ?_
  | (with_reducible refine jxR (.unOp .not _ _) ?_); first | refine RunD.op (ok_not rfl (fun _=>rfl)) rfl rfl ?_
  | (with_reducible refine jxR (.load _ _) ?_); first | refine RunD.op (ok_ldP rfl (fun _=>rfl) rfl) rfl rfl ?_ | refine RunD.op (ok_ldB rfl (fun _=>rfl) rfl) rfl rfl ?_ | refine RunD.op (ok_ldPA rfl (fun _=>rfl) rfl rfl) rfl rfl ?_ | refine RunD.op (ok_ldBS rfl (fun _=>rfl)) rfl rfl ?_ | refine RunD.op (ok_ldE rfl (fun _=>rfl) rfl rfl rfl) rfl rfl ?_
  | (with_reducible refine jxR (.extract _ _) ?_); first | refine RunD.op (ok_ext rfl (fun _=>rfl) rfl) rfl rfl ?_
  | (with_reducible refine jxR (.binOp .lss _ _ _ _) ?_); first | refine RunD.op (ok_lss rfl (fun _=>rfl) rfl (fun _=>rfl)) rfl rfl ?_
  | (with_reducible refine jxR (.binOp .neq _ _ _ _) ?_); first | refine RunD.op (ok_neq rfl (fun _=>rfl) rfl (fun _=>rfl)) rfl rfl ?_
  | (with_reducible refine jxR (.binOp .eql _ _ _ _) ?_); first | refine RunD.op (ok_eql rfl (fun _=>rfl) rfl (fun _=>rfl)) rfl rfl ?_
  | (with_reducible refine jxR (.binOp .gtr _ _ _ _) ?_); first | refine RunD.op (ok_gtr rfl (fun _=>rfl) rfl (fun _=>rfl)) rfl rfl ?_
  | (with_reducible refine jxR (.binOp .geq _ _ _ _) ?_); first | refine RunD.op (ok_geq rfl (fun _=>rfl) rfl (fun _=>rfl)) rfl rfl ?_
  | (with_reducible refine jxR (.binOp .leq _ _ _ _) ?_); first | refine RunD.op (ok_leq rfl (fun _=>rfl) rfl (fun _=>rfl)) rfl rfl ?_
  | (with_reducible refine jxR (.binOp .add _ _ _ _) ?_); first | refine RunD.op (ok_add rfl (fun _=>rfl) rfl (fun _=>rfl) (fun _=>by omega)) rfl rfl ?_
  | (with_reducible refine jxR (.binOp .sub _ _ _ _) ?_); first | refine RunD.op (ok_sub rfl (fun _=>rfl) rfl (fun _=>rfl) (fun _=>by omega)) rfl rfl ?_
  | (with_reducible refine jxR (.binOp .mul _ _ _ _) ?_); first | refine RunD.op (ok_mul rfl (fun _=>rfl) rfl (fun _=>rfl) (fun _=>by omega)) rfl rfl ?_
  | (with_reducible refine jxR (.indexAddr _ _ _) ?_); first | refine RunD.op (ok_idxN rfl (fun _=>rfl) rfl (fun _=>rfl) rfl (fun _=>by omega)) rfl rfl ?_ | refine RunD.op (ok_idxP rfl (fun _=>rfl) rfl (fun _=>rfl) rfl (fun _=>by omega)) rfl rfl ?_ | refine RunD.op (ok_idxEN rfl (fun _=>rfl) rfl (fun _=>rfl) (fun _=>by omega)) rfl rfl ?_ | refine RunD.op (ok_idxE rfl (fun _=>rfl) rfl (fun _=>rfl) (fun _=>by omega)) rfl rfl ?_
  | (with_reducible refine jxR (.pick _ _ _) ?_); first | refine RunD.op (ok_and rfl (fun _=>rfl) rfl (fun hp h=>gdT2 ((fun _=>rfl) hp) h)) rfl rfl ?_ | refine RunD.op (ok_or rfl (fun _=>rfl) rfl (fun hp h=>gdF2 ((fun _=>rfl) hp) h)) rfl rfl ?_
 | refine Tr.seq ?_
 | refine Tr.rg ?_
 | refine Tr.skip ?_
 | refine Tr.blk ?_
 | refine Tr.ret ?_
 | refine Tr.exit ?_
 exact h ()):B:=K fun _=>h
theorem jx2 {A B:Prop} (h:A) (K:(Unit→A)→B:=by
 intro h
 iterate 2 refine jx1 ?_
 exact h ()):B:=K fun _=>h
theorem jx3 {A B:Prop} (h:A) (K:(Unit→A)→B:=by
 intro h
 iterate 3 refine jx1 ?_
 exact h ()):B:=K fun _=>h
theorem jx4 {A B:Prop} (h:A) (K:(Unit→A)→B:=by
 intro h
 iterate 4 refine jx1 ?_
 exact h ()):B:=K fun _=>h
theorem jx5 {A B:Prop} (h:A) (K:(Unit→A)→B:=by
 intro h
 iterate 5 refine jx1 ?_
 exact h ()):B:=K fun _=>h
theorem jx6 {A B:Prop} (h:A) (K:(Unit→A)→B:=by
 intro h
 iterate 6 refine jx1 ?_
 exact h ()):B:=K fun _=>h
theorem jx7 {A B:Prop} (h:A) (K:(Unit→A)→B:=by
 intro h
 iterate 7 refine jx1 ?_
 exact h ()):B:=K fun _=>h
theorem jx8 {A B:Prop} (h:A) (K:(Unit→A)→B:=by
 intro h
 iterate 8 refine jx1 ?_
 exact h ()):B:=K fun _=>h
theorem jx9 {A B:Prop} (h:A) (K:(Unit→A)→B:=by
 intro h
 iterate 9 refine jx1 ?_
 exact h ()):B:=K fun _=>h
theorem jx10 {A B:Prop} (h:A) (K:(Unit→A)→B:=by
 intro h
 iterate 10 refine jx1 ?_
 exact h ()):B:=K fun _=>h
theorem jx11 {A B:Prop} (h:A) (K:(Unit→A)→B:=by
 intro h
 iterate 11 refine jx1 ?_
 exact h ()):B:=K fun _=>h
theorem jx12 {A B:Prop} (h:A) (K:(Unit→A)→B:=by
 intro h
 iterate 12 refine jx1 ?_
 exact h ()):B:=K fun _=>h
theorem jx13 {A B:Prop} (h:A) (K:(Unit→A)→B:=by
 intro h
 iterate 13 refine jx1 ?_
 exact h ()):B:=K fun _=>h
theorem jx14 {A B:Prop} (h:A) (K:(Unit→A)→B:=by
 intro h
 iterate 14 refine jx1 ?_
 exact h ()):B:=K fun _=>h
theorem jx15 {A B:Prop} (h:A) (K:(Unit→A)→B:=by
 intro h
 iterate 15 refine jx1 ?_
 exact h ()):B:=K fun _=>h
theorem jx16 {A B:Prop} (h:A) (K:(Unit→A)→B:=by
 intro h
 iterate 16 refine jx1 ?_
 exact h ()):B:=K fun _=>h
theorem jx17 {A B:Prop} (h:A) (K:(Unit→A)→B:=by
 intro h
 iterate 17 refine jx1 ?_
 exact h ()):B:=K fun _=>h
theorem jx18 {A B:Prop} (h:A) (K:(Unit→A)→B:=by
 intro h
 iterate 18 refine jx1 ?_
 exact h ()):B:=K fun _=>h
theorem jx19 {A B:Prop} (h:A) (K:(Unit→A)→B:=by
 intro h
 iterate 19 refine jx1 ?_
 exact h ()):B:=K fun _=>h
theorem jx20 {A B:Prop} (h:A) (K:(Unit→A)→B:=by
 intro h
 iterate 20 refine jx1 ?_
 exact h ()):B:=K fun _=>h
theorem jx21 {A B:Prop} (h:A) (K:(Unit→A)→B:=by
 intro h
 iterate 21 refine jx1 ?_
 exact h ()):B:=K fun _=>h
theorem jx22 {A B:Prop} (h:A) (K:(Unit→A)→B:=by
 intro h
 iterate 22 refine jx1 ?_
 exact h ()):B:=K fun _=>h
theorem jx23 {A B:Prop} (h:A) (K:(Unit→A)→B:=by
 intro h
 iterate 23 refine jx1 ?_
 exact h ()):B:=K fun _=>h
theorem jx24 {A B:Prop} (h:A) (K:(Unit→A)→B:=by
 intro h
 iterate 24 refine jx1 ?_
 exact h ()):B:=K fun _=>h
theorem jx25 {A B:Prop} (h:A) (K:(Unit→A)→B:=by
 intro h
 iterate 25 refine jx1 ?_
 exact h ()):B:=K fun _=>h
theorem jx26 {A B:Prop} (h:A) (K:(Unit→A)→B:=by
 intro h
 iterate 26 refine jx1 ?_
 exact h ()):B:=K fun _=>h
theorem jx27 {A B:Prop} (h:A) (K:(Unit→A)→B:=by
 intro h
 iterate 27 refine jx1 ?_
 exact h ()):B:=K fun _=>h
theorem jx28 {A B:Prop} (h:A) (K:(Unit→A)→B:=by
 intro h
 iterate 28 refine jx1 ?_
 exact h ()):B:=K fun _=>h
theorem jx29 {A B:Prop} (h:A) (K:(Unit→A)→B:=by
 intro h
 iterate 29 refine jx1 ?_
 exact h ()):B:=K fun _=>h
theorem jx30 {A B:Prop} (h:A) (K:(Unit→A)→B:=by
 intro h
 iterate 30 refine jx1 ?_
 exact h ()):B:=K fun _=>h
theorem jx31 {A B:Prop} (h:A) (K:(Unit→A)→B:=by
 intro h
 iterate 31 refine jx1 ?_
 exact h ()):B:=K fun _=>h
theorem jx32 {A B:Prop} (h:A) (K:(Unit→A)→B:=by
 intro h
 iterate 32 refine jx1 ?_
 exact h ()):B:=K fun _=>h
theorem jx33 {A B:Prop} (h:A) (K:(Unit→A)→B:=by
 intro h
 iterate 33 refine jx1 ?_
 exact h ()):B:=K fun _=>h
theorem jx34 {A B:Prop} (h:A) (K:(Unit→A)→B:=by
 intro h
 iterate 34 refine jx1 ?_
 exact h ()):B:=K fun _=>h
theorem jx35 {A B:Prop} (h:A) (K:(Unit→A)→B:=by
 intro h
 iterate 35 refine jx1 ?_
 exact h ()):B:=K fun _=>h
theorem jx36 {A B:Prop} (h:A) (K:(Unit→A)→B:=by
 intro h
 iterate 36 refine jx1 ?_
 exact h ()):B:=K fun _=>h
theorem jx37 {A B:Prop} (h:A) (K:(Unit→A)→B:=by
 intro h
 iterate 37 refine jx1 ?_
 exact h ()):B:=K fun _=>h
theorem jx38 {A B:Prop} (h:A) (K:(Unit→A)→B:=by
 intro h
 iterate 38 refine jx1 ?_
 exact h ()):B:=K fun _=>h
theorem jx39 {A B:Prop} (h:A) (K:(Unit→A)→B:=by
 intro h
 iterate 39 refine jx1 ?_
 exact h ()):B:=K fun _=>h
theorem jx40 {A B:Prop} (h:A) (K:(Unit→A)→B:=by
 intro h
 iterate 40 refine jx1 ?_
 exact h ()):B:=K fun _=>h
end Go.Fl

/- The program's types and functions, as our laws ask for them. (Printed by seat.py.) -/
namespace Go.Fl
open Go Go.Proofs

instance:TyLeaf Tryz.prog 1:=TyLeaf.mk' Tryz.underlying1 rfl
instance:TySz Tryz.prog 1 1 8 (.nilFunc):=TySz.mk' (by kernel_rfl)
instance:TyZero Tryz.prog 1 [kDet (.nilFunc)]:=TyZero.mk' (z:=.nilFunc) (by kernel_rfl) (fun _=>by simp[allK,kDet,Value.cells])
instance:TyLeaf Tryz.prog 2:=TyLeaf.mk' Tryz.underlying2 rfl
instance:TySz Tryz.prog 2 1 8 (.int .i64 0):=TySz.mk' (by kernel_rfl)
instance:TyKind Tryz.prog 2 .i64:=⟨Tryz.underlying2⟩
instance:TyZero Tryz.prog 2 [kDet (.int .i64 0)]:=TyZero.mk' (z:=.int .i64 0) (by kernel_rfl) (fun _=>by simp[allK,kDet,Value.cells])
instance:TyLeaf Tryz.prog 3:=TyLeaf.mk' Tryz.underlying3 rfl
instance:TySz Tryz.prog 3 1 8 (.int .i64 0):=TySz.mk' (by kernel_rfl)
instance:TyKind Tryz.prog 3 .i64:=⟨Tryz.underlying3⟩
instance:TyZero Tryz.prog 3 [kDet (.int .i64 0)]:=TyZero.mk' (z:=.int .i64 0) (by kernel_rfl) (fun _=>by simp[allK,kDet,Value.cells])
instance:TyLeaf Tryz.prog 4:=TyLeaf.mk' Tryz.underlying4 rfl
instance:TySz Tryz.prog 4 1 1 (.bool false):=TySz.mk' (by kernel_rfl)
instance:TyBool Tryz.prog 4:=⟨Tryz.underlying4⟩
instance:TyZero Tryz.prog 4 [kDet (.bool false)]:=TyZero.mk' (z:=.bool false) (by kernel_rfl) (fun _=>by simp[allK,kDet,Value.cells])
instance:TyLeaf Tryz.prog 5:=TyLeaf.mk' Tryz.underlying5 rfl
instance:TySz Tryz.prog 5 1 1 (.int .u8 0):=TySz.mk' (by kernel_rfl)
instance:TyKind Tryz.prog 5 .u8:=⟨Tryz.underlying5⟩
instance:TyZero Tryz.prog 5 [kDet (.int .u8 0)]:=TyZero.mk' (z:=.int .u8 0) (by kernel_rfl) (fun _=>by simp[allK,kDet,Value.cells])
instance:TyLeaf Tryz.prog 6:=TyLeaf.mk' Tryz.underlying6 rfl
instance:TySz Tryz.prog 6 1 1 (.int .u8 0):=TySz.mk' (by kernel_rfl)
instance:TyKind Tryz.prog 6 .u8:=⟨Tryz.underlying6⟩
instance:TyZero Tryz.prog 6 [kDet (.int .u8 0)]:=TyZero.mk' (z:=.int .u8 0) (by kernel_rfl) (fun _=>by simp[allK,kDet,Value.cells])
instance:TyLeaf Tryz.prog 9:=TyLeaf.mk' Tryz.underlying9 rfl
instance:TySz Tryz.prog 9 1 16 (.string ⟨#[]⟩):=TySz.mk' (by kernel_rfl)
instance:TyString Tryz.prog 9:=⟨Tryz.underlying9⟩
instance:TyZero Tryz.prog 9 [kDet (.string ⟨#[]⟩)]:=TyZero.mk' (z:=.string ⟨#[]⟩) (by kernel_rfl) (fun _=>by simp[allK,kDet,Value.cells])
instance:TyLeaf Tryz.prog 22:=TyLeaf.mk' Tryz.underlying22 rfl
instance:TySz Tryz.prog 22 1 24 (.slice none 0 0):=TySz.mk' (by kernel_rfl)
instance:TySl Tryz.prog 22 3:=⟨Tryz.underlying22⟩
instance:TyZero Tryz.prog 22 [kDet (.slice none 0 0)]:=TyZero.mk' (z:=.slice none 0 0) (by kernel_rfl) (fun _=>by simp[allK,kDet,Value.cells])
instance:TyAgg Tryz.prog 23:=TyAgg.mk' Tryz.underlying23 rfl
instance:TySz Tryz.prog 23 4 48 (.agg #[.slice none 0 0,.int .i64 0,.int .i64 0,.int .i64 0]):=TySz.mk' (by kernel_rfl)
instance:TyZero Tryz.prog 23 [kDet (.slice none 0 0),kDet (.int .i64 0),kDet (.int .i64 0),kDet (.int .i64 0)]:=TyZero.mk' (z:=.agg #[.slice none 0 0,.int .i64 0,.int .i64 0,.int .i64 0]) (by kernel_rfl) (fun _=>by simp[allK,kDet,Value.cells])
instance:TyFld Tryz.prog 23 0 0:=TyFld.mk' Tryz.underlying23 rfl rfl (by kernel_rfl)
instance:TyFld Tryz.prog 23 1 1:=TyFld.mk' Tryz.underlying23 rfl rfl (by kernel_rfl)
instance:TyFld Tryz.prog 23 2 2:=TyFld.mk' Tryz.underlying23 rfl rfl (by kernel_rfl)
instance:TyFld Tryz.prog 23 3 3:=TyFld.mk' Tryz.underlying23 rfl rfl (by kernel_rfl)
instance:TyPlaces Tryz.prog 23 [(0,1),(1,1),(2,1),(3,1)]:=⟨_,Tryz.underlying23,by kernel_rfl⟩
instance:TyAgg Tryz.prog 24:=TyAgg.mk' Tryz.underlying24 rfl
instance:TySz Tryz.prog 24 4 48 (.agg #[.slice none 0 0,.int .i64 0,.int .i64 0,.int .i64 0]):=TySz.mk' (by kernel_rfl)
instance:TyZero Tryz.prog 24 [kDet (.slice none 0 0),kDet (.int .i64 0),kDet (.int .i64 0),kDet (.int .i64 0)]:=TyZero.mk' (z:=.agg #[.slice none 0 0,.int .i64 0,.int .i64 0,.int .i64 0]) (by kernel_rfl) (fun _=>by simp[allK,kDet,Value.cells])
instance:TyFld Tryz.prog 24 0 0:=TyFld.mk' Tryz.underlying24 rfl rfl (by kernel_rfl)
instance:TyFld Tryz.prog 24 1 1:=TyFld.mk' Tryz.underlying24 rfl rfl (by kernel_rfl)
instance:TyFld Tryz.prog 24 2 2:=TyFld.mk' Tryz.underlying24 rfl rfl (by kernel_rfl)
instance:TyFld Tryz.prog 24 3 3:=TyFld.mk' Tryz.underlying24 rfl rfl (by kernel_rfl)
instance:TyPlaces Tryz.prog 24 [(0,1),(1,1),(2,1),(3,1)]:=⟨_,Tryz.underlying24,by kernel_rfl⟩
instance:TyLeaf Tryz.prog 25:=TyLeaf.mk' Tryz.underlying25 rfl
instance:TySz Tryz.prog 25 1 24 (.slice none 0 0):=TySz.mk' (by kernel_rfl)
instance:TySl Tryz.prog 25 30:=⟨Tryz.underlying25⟩
instance:TyZero Tryz.prog 25 [kDet (.slice none 0 0)]:=TyZero.mk' (z:=.slice none 0 0) (by kernel_rfl) (fun _=>by simp[allK,kDet,Value.cells])
instance:TyAgg Tryz.prog 26:=TyAgg.mk' Tryz.underlying26 rfl
instance:TySz Tryz.prog 26 7 120 (.agg #[.slice none 0 0,.int .i64 0,.int .i64 0,.int .i64 0,.slice none 0 0,.slice none 0 0,.slice none 0 0]):=TySz.mk' (by kernel_rfl)
instance:TyZero Tryz.prog 26 [kDet (.slice none 0 0),kDet (.int .i64 0),kDet (.int .i64 0),kDet (.int .i64 0),kDet (.slice none 0 0),kDet (.slice none 0 0),kDet (.slice none 0 0)]:=TyZero.mk' (z:=.agg #[.slice none 0 0,.int .i64 0,.int .i64 0,.int .i64 0,.slice none 0 0,.slice none 0 0,.slice none 0 0]) (by kernel_rfl) (fun _=>by simp[allK,kDet,Value.cells])
instance:TyFld Tryz.prog 26 0 0:=TyFld.mk' Tryz.underlying26 rfl rfl (by kernel_rfl)
instance:TyFld Tryz.prog 26 1 4:=TyFld.mk' Tryz.underlying26 rfl rfl (by kernel_rfl)
instance:TyFld Tryz.prog 26 2 5:=TyFld.mk' Tryz.underlying26 rfl rfl (by kernel_rfl)
instance:TyFld Tryz.prog 26 3 6:=TyFld.mk' Tryz.underlying26 rfl rfl (by kernel_rfl)
instance:TyPlaces Tryz.prog 26 [(0,4),(4,1),(5,1),(6,1)]:=⟨_,Tryz.underlying26,by kernel_rfl⟩
instance:TyAgg Tryz.prog 27:=TyAgg.mk' Tryz.underlying27 rfl
instance:TySz Tryz.prog 27 7 120 (.agg #[.slice none 0 0,.int .i64 0,.int .i64 0,.int .i64 0,.slice none 0 0,.slice none 0 0,.slice none 0 0]):=TySz.mk' (by kernel_rfl)
instance:TyZero Tryz.prog 27 [kDet (.slice none 0 0),kDet (.int .i64 0),kDet (.int .i64 0),kDet (.int .i64 0),kDet (.slice none 0 0),kDet (.slice none 0 0),kDet (.slice none 0 0)]:=TyZero.mk' (z:=.agg #[.slice none 0 0,.int .i64 0,.int .i64 0,.int .i64 0,.slice none 0 0,.slice none 0 0,.slice none 0 0]) (by kernel_rfl) (fun _=>by simp[allK,kDet,Value.cells])
instance:TyFld Tryz.prog 27 0 0:=TyFld.mk' Tryz.underlying27 rfl rfl (by kernel_rfl)
instance:TyFld Tryz.prog 27 1 4:=TyFld.mk' Tryz.underlying27 rfl rfl (by kernel_rfl)
instance:TyFld Tryz.prog 27 2 5:=TyFld.mk' Tryz.underlying27 rfl rfl (by kernel_rfl)
instance:TyFld Tryz.prog 27 3 6:=TyFld.mk' Tryz.underlying27 rfl rfl (by kernel_rfl)
instance:TyPlaces Tryz.prog 27 [(0,4),(4,1),(5,1),(6,1)]:=⟨_,Tryz.underlying27,by kernel_rfl⟩
instance:TyLeaf Tryz.prog 28:=TyLeaf.mk' Tryz.underlying28 rfl
instance:TySz Tryz.prog 28 1 24 (.slice none 0 0):=TySz.mk' (by kernel_rfl)
instance:TySl Tryz.prog 28 22:=⟨Tryz.underlying28⟩
instance:TyZero Tryz.prog 28 [kDet (.slice none 0 0)]:=TyZero.mk' (z:=.slice none 0 0) (by kernel_rfl) (fun _=>by simp[allK,kDet,Value.cells])
instance:TyAgg Tryz.prog 29:=TyAgg.mk' Tryz.underlying29 rfl
instance:TySz Tryz.prog 29 2 48 (.agg #[.slice none 0 0,.slice none 0 0]):=TySz.mk' (by kernel_rfl)
instance:TyZero Tryz.prog 29 [kDet (.slice none 0 0),kDet (.slice none 0 0)]:=TyZero.mk' (z:=.agg #[.slice none 0 0,.slice none 0 0]) (by kernel_rfl) (fun _=>by simp[allK,kDet,Value.cells])
instance:TyFld Tryz.prog 29 0 0:=TyFld.mk' Tryz.underlying29 rfl rfl (by kernel_rfl)
instance:TyFld Tryz.prog 29 1 1:=TyFld.mk' Tryz.underlying29 rfl rfl (by kernel_rfl)
instance:TyPlaces Tryz.prog 29 [(0,1),(1,1)]:=⟨_,Tryz.underlying29,by kernel_rfl⟩
instance:TyAgg Tryz.prog 30:=TyAgg.mk' Tryz.underlying30 rfl
instance:TySz Tryz.prog 30 2 48 (.agg #[.slice none 0 0,.slice none 0 0]):=TySz.mk' (by kernel_rfl)
instance:TyZero Tryz.prog 30 [kDet (.slice none 0 0),kDet (.slice none 0 0)]:=TyZero.mk' (z:=.agg #[.slice none 0 0,.slice none 0 0]) (by kernel_rfl) (fun _=>by simp[allK,kDet,Value.cells])
instance:TyFld Tryz.prog 30 0 0:=TyFld.mk' Tryz.underlying30 rfl rfl (by kernel_rfl)
instance:TyFld Tryz.prog 30 1 1:=TyFld.mk' Tryz.underlying30 rfl rfl (by kernel_rfl)
instance:TyPlaces Tryz.prog 30 [(0,1),(1,1)]:=⟨_,Tryz.underlying30,by kernel_rfl⟩
instance:TyLeaf Tryz.prog 34:=TyLeaf.mk' Tryz.underlying34 rfl
instance:TySz Tryz.prog 34 1 8 (.int .i64 0):=TySz.mk' (by kernel_rfl)
instance:TyKind Tryz.prog 34 .i64:=⟨Tryz.underlying34⟩
instance:TyZero Tryz.prog 34 [kDet (.int .i64 0)]:=TyZero.mk' (z:=.int .i64 0) (by kernel_rfl) (fun _=>by simp[allK,kDet,Value.cells])
instance:TyAgg Tryz.prog 48:=TyAgg.mk' Tryz.underlying48 rfl
instance:TySz Tryz.prog 48 4 48 (.agg #[.slice none 0 0,.int .i64 0,.int .i64 0,.int .i64 0]):=TySz.mk' (by kernel_rfl)
instance:TyZero Tryz.prog 48 [kDet (.slice none 0 0),kDet (.int .i64 0),kDet (.int .i64 0),kDet (.int .i64 0)]:=TyZero.mk' (z:=.agg #[.slice none 0 0,.int .i64 0,.int .i64 0,.int .i64 0]) (by kernel_rfl) (fun _=>by simp[allK,kDet,Value.cells])
instance:TyFld Tryz.prog 48 0 0:=TyFld.mk' Tryz.underlying48 rfl rfl (by kernel_rfl)
instance:TyPlaces Tryz.prog 48 [(0,4)]:=⟨_,Tryz.underlying48,by kernel_rfl⟩
instance:TyAgg Tryz.prog 49:=TyAgg.mk' Tryz.underlying49 rfl
instance:TySz Tryz.prog 49 4 48 (.agg #[.slice none 0 0,.int .i64 0,.int .i64 0,.int .i64 0]):=TySz.mk' (by kernel_rfl)
instance:TyZero Tryz.prog 49 [kDet (.slice none 0 0),kDet (.int .i64 0),kDet (.int .i64 0),kDet (.int .i64 0)]:=TyZero.mk' (z:=.agg #[.slice none 0 0,.int .i64 0,.int .i64 0,.int .i64 0]) (by kernel_rfl) (fun _=>by simp[allK,kDet,Value.cells])
instance:TyFld Tryz.prog 49 0 0:=TyFld.mk' Tryz.underlying49 rfl rfl (by kernel_rfl)
instance:TyPlaces Tryz.prog 49 [(0,4)]:=⟨_,Tryz.underlying49,by kernel_rfl⟩
instance:TyLeaf Tryz.prog 62:=TyLeaf.mk' Tryz.underlying62 rfl
instance:TySz Tryz.prog 62 1 24 (.slice none 0 0):=TySz.mk' (by kernel_rfl)
instance:TySl Tryz.prog 62 68:=⟨Tryz.underlying62⟩
instance:TyZero Tryz.prog 62 [kDet (.slice none 0 0)]:=TyZero.mk' (z:=.slice none 0 0) (by kernel_rfl) (fun _=>by simp[allK,kDet,Value.cells])
instance:TyAgg Tryz.prog 67:=TyAgg.mk' Tryz.underlying67 rfl
instance:TySz Tryz.prog 67 3 24 (.agg #[.int .i64 0,.int .i64 0,.int .i64 0]):=TySz.mk' (by kernel_rfl)
instance:TyZero Tryz.prog 67 [kDet (.int .i64 0),kDet (.int .i64 0),kDet (.int .i64 0)]:=TyZero.mk' (z:=.agg #[.int .i64 0,.int .i64 0,.int .i64 0]) (by kernel_rfl) (fun _=>by simp[allK,kDet,Value.cells])
instance:TyFld Tryz.prog 67 0 0:=TyFld.mk' Tryz.underlying67 rfl rfl (by kernel_rfl)
instance:TyFld Tryz.prog 67 1 1:=TyFld.mk' Tryz.underlying67 rfl rfl (by kernel_rfl)
instance:TyFld Tryz.prog 67 2 2:=TyFld.mk' Tryz.underlying67 rfl rfl (by kernel_rfl)
instance:TyPlaces Tryz.prog 67 [(0,1),(1,1),(2,1)]:=⟨_,Tryz.underlying67,by kernel_rfl⟩
instance:TyAgg Tryz.prog 68:=TyAgg.mk' Tryz.underlying68 rfl
instance:TySz Tryz.prog 68 3 24 (.agg #[.int .i64 0,.int .i64 0,.int .i64 0]):=TySz.mk' (by kernel_rfl)
instance:TyZero Tryz.prog 68 [kDet (.int .i64 0),kDet (.int .i64 0),kDet (.int .i64 0)]:=TyZero.mk' (z:=.agg #[.int .i64 0,.int .i64 0,.int .i64 0]) (by kernel_rfl) (fun _=>by simp[allK,kDet,Value.cells])
instance:TyFld Tryz.prog 68 0 0:=TyFld.mk' Tryz.underlying68 rfl rfl (by kernel_rfl)
instance:TyFld Tryz.prog 68 1 1:=TyFld.mk' Tryz.underlying68 rfl rfl (by kernel_rfl)
instance:TyFld Tryz.prog 68 2 2:=TyFld.mk' Tryz.underlying68 rfl rfl (by kernel_rfl)
instance:TyPlaces Tryz.prog 68 [(0,1),(1,1),(2,1)]:=⟨_,Tryz.underlying68,by kernel_rfl⟩
instance:TyAgg Tryz.prog 87:=TyAgg.mk' Tryz.underlying87 rfl
instance:TySz Tryz.prog 87 2 48 (.agg #[.slice none 0 0,.slice none 0 0]):=TySz.mk' (by kernel_rfl)
instance:TyZero Tryz.prog 87 [kDet (.slice none 0 0),kDet (.slice none 0 0)]:=TyZero.mk' (z:=.agg #[.slice none 0 0,.slice none 0 0]) (by kernel_rfl) (fun _=>by simp[allK,kDet,Value.cells])
instance:TyFld Tryz.prog 87 0 0:=TyFld.mk' Tryz.underlying87 rfl rfl (by kernel_rfl)
instance:TyFld Tryz.prog 87 1 1:=TyFld.mk' Tryz.underlying87 rfl rfl (by kernel_rfl)
instance:TyPlaces Tryz.prog 87 [(0,1),(1,1)]:=⟨_,Tryz.underlying87,by kernel_rfl⟩
instance:TyAgg Tryz.prog 88:=TyAgg.mk' Tryz.underlying88 rfl
instance:TySz Tryz.prog 88 2 48 (.agg #[.slice none 0 0,.slice none 0 0]):=TySz.mk' (by kernel_rfl)
instance:TyZero Tryz.prog 88 [kDet (.slice none 0 0),kDet (.slice none 0 0)]:=TyZero.mk' (z:=.agg #[.slice none 0 0,.slice none 0 0]) (by kernel_rfl) (fun _=>by simp[allK,kDet,Value.cells])
instance:TyFld Tryz.prog 88 0 0:=TyFld.mk' Tryz.underlying88 rfl rfl (by kernel_rfl)
instance:TyFld Tryz.prog 88 1 1:=TyFld.mk' Tryz.underlying88 rfl rfl (by kernel_rfl)
instance:TyPlaces Tryz.prog 88 [(0,1),(1,1)]:=⟨_,Tryz.underlying88,by kernel_rfl⟩
instance:TyLeaf Tryz.prog 109:=TyLeaf.mk' Tryz.underlying109 rfl
instance:TySz Tryz.prog 109 1 8 (.pointer none):=TySz.mk' (by kernel_rfl)
instance:TyZero Tryz.prog 109 [kDet (.pointer none)]:=TyZero.mk' (z:=.pointer none) (by kernel_rfl) (fun _=>by simp[allK,kDet,Value.cells])
instance:TyLeaf Tryz.prog 112:=TyLeaf.mk' Tryz.underlying112 rfl
instance:TySz Tryz.prog 112 1 8 (.pointer none):=TySz.mk' (by kernel_rfl)
instance:TyZero Tryz.prog 112 [kDet (.pointer none)]:=TyZero.mk' (z:=.pointer none) (by kernel_rfl) (fun _=>by simp[allK,kDet,Value.cells])
instance:TyAgg Tryz.prog 113:=TyAgg.mk' Tryz.underlying113 rfl
instance:TySz Tryz.prog 113 9 200 (.agg #[.pointer none,.slice none 0 0,.slice none 0 0,.slice none 0 0,.slice none 0 0,.slice none 0 0,.slice none 0 0,.slice none 0 0,.slice none 0 0]):=TySz.mk' (by kernel_rfl)
instance:TyZero Tryz.prog 113 [kDet (.pointer none),kDet (.slice none 0 0),kDet (.slice none 0 0),kDet (.slice none 0 0),kDet (.slice none 0 0),kDet (.slice none 0 0),kDet (.slice none 0 0),kDet (.slice none 0 0),kDet (.slice none 0 0)]:=TyZero.mk' (z:=.agg #[.pointer none,.slice none 0 0,.slice none 0 0,.slice none 0 0,.slice none 0 0,.slice none 0 0,.slice none 0 0,.slice none 0 0,.slice none 0 0]) (by kernel_rfl) (fun _=>by simp[allK,kDet,Value.cells])
instance:TyFld Tryz.prog 113 0 0:=TyFld.mk' Tryz.underlying113 rfl rfl (by kernel_rfl)
instance:TyFld Tryz.prog 113 1 1:=TyFld.mk' Tryz.underlying113 rfl rfl (by kernel_rfl)
instance:TyFld Tryz.prog 113 2 3:=TyFld.mk' Tryz.underlying113 rfl rfl (by kernel_rfl)
instance:TyFld Tryz.prog 113 3 4:=TyFld.mk' Tryz.underlying113 rfl rfl (by kernel_rfl)
instance:TyFld Tryz.prog 113 4 5:=TyFld.mk' Tryz.underlying113 rfl rfl (by kernel_rfl)
instance:TyFld Tryz.prog 113 5 6:=TyFld.mk' Tryz.underlying113 rfl rfl (by kernel_rfl)
instance:TyFld Tryz.prog 113 6 7:=TyFld.mk' Tryz.underlying113 rfl rfl (by kernel_rfl)
instance:TyPlaces Tryz.prog 113 [(0,1),(1,2),(3,1),(4,1),(5,1),(6,1),(7,2)]:=⟨_,Tryz.underlying113,by kernel_rfl⟩
instance:TyAgg Tryz.prog 114:=TyAgg.mk' Tryz.underlying114 rfl
instance:TySz Tryz.prog 114 9 200 (.agg #[.pointer none,.slice none 0 0,.slice none 0 0,.slice none 0 0,.slice none 0 0,.slice none 0 0,.slice none 0 0,.slice none 0 0,.slice none 0 0]):=TySz.mk' (by kernel_rfl)
instance:TyZero Tryz.prog 114 [kDet (.pointer none),kDet (.slice none 0 0),kDet (.slice none 0 0),kDet (.slice none 0 0),kDet (.slice none 0 0),kDet (.slice none 0 0),kDet (.slice none 0 0),kDet (.slice none 0 0),kDet (.slice none 0 0)]:=TyZero.mk' (z:=.agg #[.pointer none,.slice none 0 0,.slice none 0 0,.slice none 0 0,.slice none 0 0,.slice none 0 0,.slice none 0 0,.slice none 0 0,.slice none 0 0]) (by kernel_rfl) (fun _=>by simp[allK,kDet,Value.cells])
instance:TyFld Tryz.prog 114 0 0:=TyFld.mk' Tryz.underlying114 rfl rfl (by kernel_rfl)
instance:TyFld Tryz.prog 114 1 1:=TyFld.mk' Tryz.underlying114 rfl rfl (by kernel_rfl)
instance:TyFld Tryz.prog 114 2 3:=TyFld.mk' Tryz.underlying114 rfl rfl (by kernel_rfl)
instance:TyFld Tryz.prog 114 3 4:=TyFld.mk' Tryz.underlying114 rfl rfl (by kernel_rfl)
instance:TyFld Tryz.prog 114 4 5:=TyFld.mk' Tryz.underlying114 rfl rfl (by kernel_rfl)
instance:TyFld Tryz.prog 114 5 6:=TyFld.mk' Tryz.underlying114 rfl rfl (by kernel_rfl)
instance:TyFld Tryz.prog 114 6 7:=TyFld.mk' Tryz.underlying114 rfl rfl (by kernel_rfl)
instance:TyPlaces Tryz.prog 114 [(0,1),(1,2),(3,1),(4,1),(5,1),(6,1),(7,2)]:=⟨_,Tryz.underlying114,by kernel_rfl⟩
instance:TyAgg Tryz.prog 120:=TyAgg.mk' Tryz.underlying120 rfl
instance:TySz Tryz.prog 120 3 72 (.agg #[.slice none 0 0,.slice none 0 0,.slice none 0 0]):=TySz.mk' (by kernel_rfl)
instance:TyZero Tryz.prog 120 [kDet (.slice none 0 0),kDet (.slice none 0 0),kDet (.slice none 0 0)]:=TyZero.mk' (z:=.agg #[.slice none 0 0,.slice none 0 0,.slice none 0 0]) (by kernel_rfl) (fun _=>by simp[allK,kDet,Value.cells])
instance:TyFld Tryz.prog 120 0 0:=TyFld.mk' Tryz.underlying120 rfl rfl (by kernel_rfl)
instance:TyFld Tryz.prog 120 1 1:=TyFld.mk' Tryz.underlying120 rfl rfl (by kernel_rfl)
instance:TyFld Tryz.prog 120 2 2:=TyFld.mk' Tryz.underlying120 rfl rfl (by kernel_rfl)
instance:TyPlaces Tryz.prog 120 [(0,1),(1,1),(2,1)]:=⟨_,Tryz.underlying120,by kernel_rfl⟩
instance:TyAgg Tryz.prog 121:=TyAgg.mk' Tryz.underlying121 rfl
instance:TySz Tryz.prog 121 3 72 (.agg #[.slice none 0 0,.slice none 0 0,.slice none 0 0]):=TySz.mk' (by kernel_rfl)
instance:TyZero Tryz.prog 121 [kDet (.slice none 0 0),kDet (.slice none 0 0),kDet (.slice none 0 0)]:=TyZero.mk' (z:=.agg #[.slice none 0 0,.slice none 0 0,.slice none 0 0]) (by kernel_rfl) (fun _=>by simp[allK,kDet,Value.cells])
instance:TyFld Tryz.prog 121 0 0:=TyFld.mk' Tryz.underlying121 rfl rfl (by kernel_rfl)
instance:TyFld Tryz.prog 121 1 1:=TyFld.mk' Tryz.underlying121 rfl rfl (by kernel_rfl)
instance:TyFld Tryz.prog 121 2 2:=TyFld.mk' Tryz.underlying121 rfl rfl (by kernel_rfl)
instance:TyPlaces Tryz.prog 121 [(0,1),(1,1),(2,1)]:=⟨_,Tryz.underlying121,by kernel_rfl⟩
instance:TyLeaf Tryz.prog 144:=TyLeaf.mk' Tryz.underlying144 rfl
instance:TySz Tryz.prog 144 1 8 (.nilFunc):=TySz.mk' (by kernel_rfl)
instance:TyZero Tryz.prog 144 [kDet (.nilFunc)]:=TyZero.mk' (z:=.nilFunc) (by kernel_rfl) (fun _=>by simp[allK,kDet,Value.cells])
instance:TyLeaf Tryz.prog 145:=TyLeaf.mk' Tryz.underlying145 rfl
instance:TySz Tryz.prog 145 1 24 (.slice none 0 0):=TySz.mk' (by kernel_rfl)
instance:TySl Tryz.prog 145 22:=⟨Tryz.underlying145⟩
instance:TyZero Tryz.prog 145 [kDet (.slice none 0 0)]:=TyZero.mk' (z:=.slice none 0 0) (by kernel_rfl) (fun _=>by simp[allK,kDet,Value.cells])
instance:TyLeaf Tryz.prog 153:=TyLeaf.mk' Tryz.underlying153 rfl
instance:TySz Tryz.prog 153 1 8 (.nilFunc):=TySz.mk' (by kernel_rfl)
instance:TyZero Tryz.prog 153 [kDet (.nilFunc)]:=TyZero.mk' (z:=.nilFunc) (by kernel_rfl) (fun _=>by simp[allK,kDet,Value.cells])
instance:TyAgg Tryz.prog 159:=TyAgg.mk' Tryz.underlying159 rfl
instance:TySz Tryz.prog 159 2 32 (.agg #[.bool false,.slice none 0 0]):=TySz.mk' (by kernel_rfl)
instance:TyZero Tryz.prog 159 [kDet (.bool false),kDet (.slice none 0 0)]:=TyZero.mk' (z:=.agg #[.bool false,.slice none 0 0]) (by kernel_rfl) (fun _=>by simp[allK,kDet,Value.cells])
instance:TyFld Tryz.prog 159 0 0:=TyFld.mk' Tryz.underlying159 rfl rfl (by kernel_rfl)
instance:TyFld Tryz.prog 159 1 1:=TyFld.mk' Tryz.underlying159 rfl rfl (by kernel_rfl)
instance:TyPlaces Tryz.prog 159 [(0,1),(1,1)]:=⟨_,Tryz.underlying159,by kernel_rfl⟩
instance:TyAgg Tryz.prog 160:=TyAgg.mk' Tryz.underlying160 rfl
instance:TySz Tryz.prog 160 2 32 (.agg #[.bool false,.slice none 0 0]):=TySz.mk' (by kernel_rfl)
instance:TyZero Tryz.prog 160 [kDet (.bool false),kDet (.slice none 0 0)]:=TyZero.mk' (z:=.agg #[.bool false,.slice none 0 0]) (by kernel_rfl) (fun _=>by simp[allK,kDet,Value.cells])
instance:TyFld Tryz.prog 160 0 0:=TyFld.mk' Tryz.underlying160 rfl rfl (by kernel_rfl)
instance:TyFld Tryz.prog 160 1 1:=TyFld.mk' Tryz.underlying160 rfl rfl (by kernel_rfl)
instance:TyPlaces Tryz.prog 160 [(0,1),(1,1)]:=⟨_,Tryz.underlying160,by kernel_rfl⟩
instance:TyAgg Tryz.prog 161:=TyAgg.mk' Tryz.underlying161 rfl
instance:TySz Tryz.prog 161 8 128 (.agg #[.bool false,.slice none 0 0,.bool false,.slice none 0 0,.bool false,.slice none 0 0,.bool false,.slice none 0 0]):=TySz.mk' (by kernel_rfl)
instance:TyArr Tryz.prog 161 4 160:=⟨Tryz.underlying161⟩
instance:TyZero Tryz.prog 161 [kDet (.bool false),kDet (.slice none 0 0),kDet (.bool false),kDet (.slice none 0 0),kDet (.bool false),kDet (.slice none 0 0),kDet (.bool false),kDet (.slice none 0 0)]:=TyZero.mk' (z:=.agg #[.bool false,.slice none 0 0,.bool false,.slice none 0 0,.bool false,.slice none 0 0,.bool false,.slice none 0 0]) (by kernel_rfl) (fun _=>by simp[allK,kDet,Value.cells])
instance:TyAgg Tryz.prog 162:=TyAgg.mk' Tryz.underlying162 rfl
instance:TySz Tryz.prog 162 10 160 (.agg #[.bool false,.slice none 0 0,.bool false,.slice none 0 0,.bool false,.slice none 0 0,.bool false,.slice none 0 0,.bool false,.slice none 0 0]):=TySz.mk' (by kernel_rfl)
instance:TyZero Tryz.prog 162 [kDet (.bool false),kDet (.slice none 0 0),kDet (.bool false),kDet (.slice none 0 0),kDet (.bool false),kDet (.slice none 0 0),kDet (.bool false),kDet (.slice none 0 0),kDet (.bool false),kDet (.slice none 0 0)]:=TyZero.mk' (z:=.agg #[.bool false,.slice none 0 0,.bool false,.slice none 0 0,.bool false,.slice none 0 0,.bool false,.slice none 0 0,.bool false,.slice none 0 0]) (by kernel_rfl) (fun _=>by simp[allK,kDet,Value.cells])
instance:TyFld Tryz.prog 162 0 0:=TyFld.mk' Tryz.underlying162 rfl rfl (by kernel_rfl)
instance:TyFld Tryz.prog 162 1 8:=TyFld.mk' Tryz.underlying162 rfl rfl (by kernel_rfl)
instance:TyPlaces Tryz.prog 162 [(0,8),(8,2)]:=⟨_,Tryz.underlying162,by kernel_rfl⟩
instance:TyAgg Tryz.prog 163:=TyAgg.mk' Tryz.underlying163 rfl
instance:TySz Tryz.prog 163 10 160 (.agg #[.bool false,.slice none 0 0,.bool false,.slice none 0 0,.bool false,.slice none 0 0,.bool false,.slice none 0 0,.bool false,.slice none 0 0]):=TySz.mk' (by kernel_rfl)
instance:TyZero Tryz.prog 163 [kDet (.bool false),kDet (.slice none 0 0),kDet (.bool false),kDet (.slice none 0 0),kDet (.bool false),kDet (.slice none 0 0),kDet (.bool false),kDet (.slice none 0 0),kDet (.bool false),kDet (.slice none 0 0)]:=TyZero.mk' (z:=.agg #[.bool false,.slice none 0 0,.bool false,.slice none 0 0,.bool false,.slice none 0 0,.bool false,.slice none 0 0,.bool false,.slice none 0 0]) (by kernel_rfl) (fun _=>by simp[allK,kDet,Value.cells])
instance:TyFld Tryz.prog 163 0 0:=TyFld.mk' Tryz.underlying163 rfl rfl (by kernel_rfl)
instance:TyFld Tryz.prog 163 1 8:=TyFld.mk' Tryz.underlying163 rfl rfl (by kernel_rfl)
instance:TyPlaces Tryz.prog 163 [(0,8),(8,2)]:=⟨_,Tryz.underlying163,by kernel_rfl⟩
instance:TyAgg Tryz.prog 172:=TyAgg.mk' Tryz.underlying172 rfl
instance:TySz Tryz.prog 172 4 96 (.agg #[.slice none 0 0,.slice none 0 0,.slice none 0 0,.slice none 0 0]):=TySz.mk' (by kernel_rfl)
instance:TyArr Tryz.prog 172 4 22:=⟨Tryz.underlying172⟩
instance:TyZero Tryz.prog 172 [kDet (.slice none 0 0),kDet (.slice none 0 0),kDet (.slice none 0 0),kDet (.slice none 0 0)]:=TyZero.mk' (z:=.agg #[.slice none 0 0,.slice none 0 0,.slice none 0 0,.slice none 0 0]) (by kernel_rfl) (fun _=>by simp[allK,kDet,Value.cells])
instance:TyLeaf Tryz.prog 173:=TyLeaf.mk' Tryz.underlying173 rfl
instance:TySz Tryz.prog 173 1 24 (.slice none 0 0):=TySz.mk' (by kernel_rfl)
instance:TySl Tryz.prog 173 22:=⟨Tryz.underlying173⟩
instance:TyZero Tryz.prog 173 [kDet (.slice none 0 0)]:=TyZero.mk' (z:=.slice none 0 0) (by kernel_rfl) (fun _=>by simp[allK,kDet,Value.cells])
instance:TyLeaf Tryz.prog 175:=TyLeaf.mk' Tryz.underlying175 rfl
instance:TySz Tryz.prog 175 1 24 (.slice none 0 0):=TySz.mk' (by kernel_rfl)
instance:TySl Tryz.prog 175 28:=⟨Tryz.underlying175⟩
instance:TyZero Tryz.prog 175 [kDet (.slice none 0 0)]:=TyZero.mk' (z:=.slice none 0 0) (by kernel_rfl) (fun _=>by simp[allK,kDet,Value.cells])
instance:TyLeaf Tryz.prog 189:=TyLeaf.mk' Tryz.underlying189 rfl
instance:TySz Tryz.prog 189 1 8 (.nilFunc):=TySz.mk' (by kernel_rfl)
instance:TyZero Tryz.prog 189 [kDet (.nilFunc)]:=TyZero.mk' (z:=.nilFunc) (by kernel_rfl) (fun _=>by simp[allK,kDet,Value.cells])
instance:TyLeaf Tryz.prog 192:=TyLeaf.mk' Tryz.underlying192 rfl
instance:TySz Tryz.prog 192 1 24 (.slice none 0 0):=TySz.mk' (by kernel_rfl)
instance:TySl Tryz.prog 192 160:=⟨Tryz.underlying192⟩
instance:TyZero Tryz.prog 192 [kDet (.slice none 0 0)]:=TyZero.mk' (z:=.slice none 0 0) (by kernel_rfl) (fun _=>by simp[allK,kDet,Value.cells])
instance:TyLeaf Tryz.prog 193:=TyLeaf.mk' Tryz.underlying193 rfl
instance:TySz Tryz.prog 193 1 24 (.slice none 0 0):=TySz.mk' (by kernel_rfl)
instance:TySl Tryz.prog 193 160:=⟨Tryz.underlying193⟩
instance:TyZero Tryz.prog 193 [kDet (.slice none 0 0)]:=TyZero.mk' (z:=.slice none 0 0) (by kernel_rfl) (fun _=>by simp[allK,kDet,Value.cells])
instance:TyAgg Tryz.prog 196:=TyAgg.mk' Tryz.underlying196 rfl
instance:TySz Tryz.prog 196 12 192 (.agg #[.slice none 0 0,.int .i64 0,.int .i64 0,.int .i64 0,.slice none 0 0,.slice none 0 0,.bool false,.slice none 0 0,.bool false,.slice none 0 0,.bool false,.slice none 0 0]):=TySz.mk' (by kernel_rfl)
instance:TyZero Tryz.prog 196 [kDet (.slice none 0 0),kDet (.int .i64 0),kDet (.int .i64 0),kDet (.int .i64 0),kDet (.slice none 0 0),kDet (.slice none 0 0),kDet (.bool false),kDet (.slice none 0 0),kDet (.bool false),kDet (.slice none 0 0),kDet (.bool false),kDet (.slice none 0 0)]:=TyZero.mk' (z:=.agg #[.slice none 0 0,.int .i64 0,.int .i64 0,.int .i64 0,.slice none 0 0,.slice none 0 0,.bool false,.slice none 0 0,.bool false,.slice none 0 0,.bool false,.slice none 0 0]) (by kernel_rfl) (fun _=>by simp[allK,kDet,Value.cells])
instance:TyFld Tryz.prog 196 0 0:=TyFld.mk' Tryz.underlying196 rfl rfl (by kernel_rfl)
instance:TyFld Tryz.prog 196 1 4:=TyFld.mk' Tryz.underlying196 rfl rfl (by kernel_rfl)
instance:TyFld Tryz.prog 196 2 5:=TyFld.mk' Tryz.underlying196 rfl rfl (by kernel_rfl)
instance:TyFld Tryz.prog 196 3 6:=TyFld.mk' Tryz.underlying196 rfl rfl (by kernel_rfl)
instance:TyFld Tryz.prog 196 4 8:=TyFld.mk' Tryz.underlying196 rfl rfl (by kernel_rfl)
instance:TyFld Tryz.prog 196 5 10:=TyFld.mk' Tryz.underlying196 rfl rfl (by kernel_rfl)
instance:TyPlaces Tryz.prog 196 [(0,4),(4,1),(5,1),(6,2),(8,2),(10,2)]:=⟨_,Tryz.underlying196,by kernel_rfl⟩
instance:TyAgg Tryz.prog 197:=TyAgg.mk' Tryz.underlying197 rfl
instance:TySz Tryz.prog 197 12 192 (.agg #[.slice none 0 0,.int .i64 0,.int .i64 0,.int .i64 0,.slice none 0 0,.slice none 0 0,.bool false,.slice none 0 0,.bool false,.slice none 0 0,.bool false,.slice none 0 0]):=TySz.mk' (by kernel_rfl)
instance:TyZero Tryz.prog 197 [kDet (.slice none 0 0),kDet (.int .i64 0),kDet (.int .i64 0),kDet (.int .i64 0),kDet (.slice none 0 0),kDet (.slice none 0 0),kDet (.bool false),kDet (.slice none 0 0),kDet (.bool false),kDet (.slice none 0 0),kDet (.bool false),kDet (.slice none 0 0)]:=TyZero.mk' (z:=.agg #[.slice none 0 0,.int .i64 0,.int .i64 0,.int .i64 0,.slice none 0 0,.slice none 0 0,.bool false,.slice none 0 0,.bool false,.slice none 0 0,.bool false,.slice none 0 0]) (by kernel_rfl) (fun _=>by simp[allK,kDet,Value.cells])
instance:TyFld Tryz.prog 197 0 0:=TyFld.mk' Tryz.underlying197 rfl rfl (by kernel_rfl)
instance:TyFld Tryz.prog 197 1 4:=TyFld.mk' Tryz.underlying197 rfl rfl (by kernel_rfl)
instance:TyFld Tryz.prog 197 2 5:=TyFld.mk' Tryz.underlying197 rfl rfl (by kernel_rfl)
instance:TyFld Tryz.prog 197 3 6:=TyFld.mk' Tryz.underlying197 rfl rfl (by kernel_rfl)
instance:TyFld Tryz.prog 197 4 8:=TyFld.mk' Tryz.underlying197 rfl rfl (by kernel_rfl)
instance:TyFld Tryz.prog 197 5 10:=TyFld.mk' Tryz.underlying197 rfl rfl (by kernel_rfl)
instance:TyPlaces Tryz.prog 197 [(0,4),(4,1),(5,1),(6,2),(8,2),(10,2)]:=⟨_,Tryz.underlying197,by kernel_rfl⟩
instance:TyLeaf Tryz.prog 200:=TyLeaf.mk' Tryz.underlying200 rfl
instance:TySz Tryz.prog 200 1 8 (.nilFunc):=TySz.mk' (by kernel_rfl)
instance:TyZero Tryz.prog 200 [kDet (.nilFunc)]:=TyZero.mk' (z:=.nilFunc) (by kernel_rfl) (fun _=>by simp[allK,kDet,Value.cells])
instance:TyLeaf Tryz.prog 201:=TyLeaf.mk' Tryz.underlying201 rfl
instance:TySz Tryz.prog 201 1 8 (.nilFunc):=TySz.mk' (by kernel_rfl)
instance:TyZero Tryz.prog 201 [kDet (.nilFunc)]:=TyZero.mk' (z:=.nilFunc) (by kernel_rfl) (fun _=>by simp[allK,kDet,Value.cells])
instance:TyLeaf Tryz.prog 206:=TyLeaf.mk' Tryz.underlying206 rfl
instance:TySz Tryz.prog 206 1 24 (.slice none 0 0):=TySz.mk' (by kernel_rfl)
instance:TySl Tryz.prog 206 173:=⟨Tryz.underlying206⟩
instance:TyZero Tryz.prog 206 [kDet (.slice none 0 0)]:=TyZero.mk' (z:=.slice none 0 0) (by kernel_rfl) (fun _=>by simp[allK,kDet,Value.cells])
instance:TyLeaf Tryz.prog 215:=TyLeaf.mk' Tryz.underlying215 rfl
instance:TySz Tryz.prog 215 1 8 (.nilFunc):=TySz.mk' (by kernel_rfl)
instance:TyZero Tryz.prog 215 [kDet (.nilFunc)]:=TyZero.mk' (z:=.nilFunc) (by kernel_rfl) (fun _=>by simp[allK,kDet,Value.cells])
instance:TyLeaf Tryz.prog 217:=TyLeaf.mk' Tryz.underlying217 rfl
instance:TySz Tryz.prog 217 1 24 (.slice none 0 0):=TySz.mk' (by kernel_rfl)
instance:TySl Tryz.prog 217 4:=⟨Tryz.underlying217⟩
instance:TyZero Tryz.prog 217 [kDet (.slice none 0 0)]:=TyZero.mk' (z:=.slice none 0 0) (by kernel_rfl) (fun _=>by simp[allK,kDet,Value.cells])
instance:TyLeaf Tryz.prog 219:=TyLeaf.mk' Tryz.underlying219 rfl
instance:TySz Tryz.prog 219 1 8 (.nilFunc):=TySz.mk' (by kernel_rfl)
instance:TyZero Tryz.prog 219 [kDet (.nilFunc)]:=TyZero.mk' (z:=.nilFunc) (by kernel_rfl) (fun _=>by simp[allK,kDet,Value.cells])
instance:TyLeaf Tryz.prog 220:=TyLeaf.mk' Tryz.underlying220 rfl
instance:TySz Tryz.prog 220 1 8 (.nilFunc):=TySz.mk' (by kernel_rfl)
instance:TyZero Tryz.prog 220 [kDet (.nilFunc)]:=TyZero.mk' (z:=.nilFunc) (by kernel_rfl) (fun _=>by simp[allK,kDet,Value.cells])
instance:TyLeaf Tryz.prog 224:=TyLeaf.mk' Tryz.underlying224 rfl
instance:TySz Tryz.prog 224 1 8 (.nilFunc):=TySz.mk' (by kernel_rfl)
instance:TyZero Tryz.prog 224 [kDet (.nilFunc)]:=TyZero.mk' (z:=.nilFunc) (by kernel_rfl) (fun _=>by simp[allK,kDet,Value.cells])
instance:TyLeaf Tryz.prog 225:=TyLeaf.mk' Tryz.underlying225 rfl
instance:TySz Tryz.prog 225 1 8 (.nilFunc):=TySz.mk' (by kernel_rfl)
instance:TyZero Tryz.prog 225 [kDet (.nilFunc)]:=TyZero.mk' (z:=.nilFunc) (by kernel_rfl) (fun _=>by simp[allK,kDet,Value.cells])
instance:TyLeaf Tryz.prog 226:=TyLeaf.mk' Tryz.underlying226 rfl
instance:TySz Tryz.prog 226 1 8 (.nilFunc):=TySz.mk' (by kernel_rfl)
instance:TyZero Tryz.prog 226 [kDet (.nilFunc)]:=TyZero.mk' (z:=.nilFunc) (by kernel_rfl) (fun _=>by simp[allK,kDet,Value.cells])
instance:TyLeaf Tryz.prog 238:=TyLeaf.mk' Tryz.underlying238 rfl
instance:TySz Tryz.prog 238 1 8 (.nilFunc):=TySz.mk' (by kernel_rfl)
instance:TyZero Tryz.prog 238 [kDet (.nilFunc)]:=TyZero.mk' (z:=.nilFunc) (by kernel_rfl) (fun _=>by simp[allK,kDet,Value.cells])
instance:TyLeaf Tryz.prog 242:=TyLeaf.mk' Tryz.underlying242 rfl
instance:TySz Tryz.prog 242 1 24 (.slice none 0 0):=TySz.mk' (by kernel_rfl)
instance:TySl Tryz.prog 242 193:=⟨Tryz.underlying242⟩
instance:TyZero Tryz.prog 242 [kDet (.slice none 0 0)]:=TyZero.mk' (z:=.slice none 0 0) (by kernel_rfl) (fun _=>by simp[allK,kDet,Value.cells])
instance:TyLeaf Tryz.prog 244:=TyLeaf.mk' Tryz.underlying244 rfl
instance:TySz Tryz.prog 244 1 8 (.nilFunc):=TySz.mk' (by kernel_rfl)
instance:TyZero Tryz.prog 244 [kDet (.nilFunc)]:=TyZero.mk' (z:=.nilFunc) (by kernel_rfl) (fun _=>by simp[allK,kDet,Value.cells])
instance:TyFn Tryz.prog 5:=TyFn.mk' Tryz.func5 (by kernel_rfl) (by kernel_rfl)
instance:TyFn Tryz.prog 12:=TyFn.mk' Tryz.func12 (by kernel_rfl) (by kernel_rfl)
instance:TyFn Tryz.prog 13:=TyFn.mk' Tryz.func13 (by kernel_rfl) (by kernel_rfl)
instance:TyFn Tryz.prog 14:=TyFn.mk' Tryz.func14 (by kernel_rfl) (by kernel_rfl)
instance:TyFn Tryz.prog 15:=TyFn.mk' Tryz.func15 (by kernel_rfl) (by kernel_rfl)
instance:TyFn Tryz.prog 18:=TyFn.mk' Tryz.func18 (by kernel_rfl) (by kernel_rfl)
instance:TyFn Tryz.prog 22:=TyFn.mk' Tryz.func22 (by kernel_rfl) (by kernel_rfl)
instance:TyFn Tryz.prog 23:=TyFn.mk' Tryz.func23 (by kernel_rfl) (by kernel_rfl)
instance:TyFn Tryz.prog 24:=TyFn.mk' Tryz.func24 (by kernel_rfl) (by kernel_rfl)
instance:TyFn Tryz.prog 25:=TyFn.mk' Tryz.func25 (by kernel_rfl) (by kernel_rfl)
instance:TyFn Tryz.prog 26:=TyFn.mk' Tryz.func26 (by kernel_rfl) (by kernel_rfl)
instance:TyFn Tryz.prog 27:=TyFn.mk' Tryz.func27 (by kernel_rfl) (by kernel_rfl)
instance:TyFn Tryz.prog 28:=TyFn.mk' Tryz.func28 (by kernel_rfl) (by kernel_rfl)
instance:TyFn Tryz.prog 30:=TyFn.mk' Tryz.func30 (by kernel_rfl) (by kernel_rfl)
instance:TyFn Tryz.prog 31:=TyFn.mk' Tryz.func31 (by kernel_rfl) (by kernel_rfl)
instance:TyFn Tryz.prog 32:=TyFn.mk' Tryz.func32 (by kernel_rfl) (by kernel_rfl)
instance:TyFn Tryz.prog 51:=TyFn.mk' Tryz.func51 (by kernel_rfl) (by kernel_rfl)
instance:TyFn Tryz.prog 52:=TyFn.mk' Tryz.func52 (by kernel_rfl) (by kernel_rfl)
instance:TyFn Tryz.prog 64:=TyFn.mk' Tryz.func64 (by kernel_rfl) (by kernel_rfl)
instance:TyFn Tryz.prog 65:=TyFn.mk' Tryz.func65 (by kernel_rfl) (by kernel_rfl)
instance:TyFn Tryz.prog 66:=TyFn.mk' Tryz.func66 (by kernel_rfl) (by kernel_rfl)
instance:TyFn Tryz.prog 67:=TyFn.mk' Tryz.func67 (by kernel_rfl) (by kernel_rfl)
instance:TyFn Tryz.prog 68:=TyFn.mk' Tryz.func68 (by kernel_rfl) (by kernel_rfl)
instance:TyFn Tryz.prog 69:=TyFn.mk' Tryz.func69 (by kernel_rfl) (by kernel_rfl)
instance:TyFn Tryz.prog 72:=TyFn.mk' Tryz.func72 (by kernel_rfl) (by kernel_rfl)
instance:TyFn Tryz.prog 74:=TyFn.mk' Tryz.func74 (by kernel_rfl) (by kernel_rfl)
instance:TyFn Tryz.prog 75:=TyFn.mk' Tryz.func75 (by kernel_rfl) (by kernel_rfl)
instance:TyFn Tryz.prog 76:=TyFn.mk' Tryz.func76 (by kernel_rfl) (by kernel_rfl)
instance:TyFn Tryz.prog 77:=TyFn.mk' Tryz.func77 (by kernel_rfl) (by kernel_rfl)
instance:TyFn Tryz.prog 78:=TyFn.mk' Tryz.func78 (by kernel_rfl) (by kernel_rfl)
instance:TyFn Tryz.prog 79:=TyFn.mk' Tryz.func79 (by kernel_rfl) (by kernel_rfl)
instance:TyFn Tryz.prog 81:=TyFn.mk' Tryz.func81 (by kernel_rfl) (by kernel_rfl)
instance:TyFn Tryz.prog 82:=TyFn.mk' Tryz.func82 (by kernel_rfl) (by kernel_rfl)
instance:TyFn Tryz.prog 83:=TyFn.mk' Tryz.func83 (by kernel_rfl) (by kernel_rfl)
instance:TyFn Tryz.prog 84:=TyFn.mk' Tryz.func84 (by kernel_rfl) (by kernel_rfl)
instance:TyFn Tryz.prog 85:=TyFn.mk' Tryz.func85 (by kernel_rfl) (by kernel_rfl)
instance:TyFn Tryz.prog 86:=TyFn.mk' Tryz.func86 (by kernel_rfl) (by kernel_rfl)
instance:TyFn Tryz.prog 87:=TyFn.mk' Tryz.func87 (by kernel_rfl) (by kernel_rfl)
instance:TyFn Tryz.prog 99:=TyFn.mk' Tryz.func99 (by kernel_rfl) (by kernel_rfl)
instance:TyFn Tryz.prog 101:=TyFn.mk' Tryz.func101 (by kernel_rfl) (by kernel_rfl)
instance:TyFn Tryz.prog 108:=TyFn.mk' Tryz.func108 (by kernel_rfl) (by kernel_rfl)
instance:TyFn Tryz.prog 112:=TyFn.mk' Tryz.func112 (by kernel_rfl) (by kernel_rfl)
instance:TyFn Tryz.prog 113:=TyFn.mk' Tryz.func113 (by kernel_rfl) (by kernel_rfl)
instance:TyFn Tryz.prog 114:=TyFn.mk' Tryz.func114 (by kernel_rfl) (by kernel_rfl)
instance:TyFn Tryz.prog 115:=TyFn.mk' Tryz.func115 (by kernel_rfl) (by kernel_rfl)
instance:TyFn Tryz.prog 116:=TyFn.mk' Tryz.func116 (by kernel_rfl) (by kernel_rfl)
instance:TyFn Tryz.prog 117:=TyFn.mk' Tryz.func117 (by kernel_rfl) (by kernel_rfl)
instance:TyFn Tryz.prog 118:=TyFn.mk' Tryz.func118 (by kernel_rfl) (by kernel_rfl)
instance:TyFn Tryz.prog 119:=TyFn.mk' Tryz.func119 (by kernel_rfl) (by kernel_rfl)
instance:TyFn Tryz.prog 120:=TyFn.mk' Tryz.func120 (by kernel_rfl) (by kernel_rfl)
instance:TyFn Tryz.prog 122:=TyFn.mk' Tryz.func122 (by kernel_rfl) (by kernel_rfl)
instance:TyFn Tryz.prog 123:=TyFn.mk' Tryz.func123 (by kernel_rfl) (by kernel_rfl)
instance:TyFn Tryz.prog 124:=TyFn.mk' Tryz.func124 (by kernel_rfl) (by kernel_rfl)
instance:TyFn Tryz.prog 125:=TyFn.mk' Tryz.func125 (by kernel_rfl) (by kernel_rfl)
instance:TyFn Tryz.prog 126:=TyFn.mk' Tryz.func126 (by kernel_rfl) (by kernel_rfl)
instance:TyFn Tryz.prog 127:=TyFn.mk' Tryz.func127 (by kernel_rfl) (by kernel_rfl)
instance:TyFn Tryz.prog 128:=TyFn.mk' Tryz.func128 (by kernel_rfl) (by kernel_rfl)
instance:TyFn Tryz.prog 129:=TyFn.mk' Tryz.func129 (by kernel_rfl) (by kernel_rfl)
instance:TyFn Tryz.prog 130:=TyFn.mk' Tryz.func130 (by kernel_rfl) (by kernel_rfl)
instance:TyFn Tryz.prog 131:=TyFn.mk' Tryz.func131 (by kernel_rfl) (by kernel_rfl)
instance:TyFn Tryz.prog 132:=TyFn.mk' Tryz.func132 (by kernel_rfl) (by kernel_rfl)
instance:TyFn Tryz.prog 136:=TyFn.mk' Tryz.func136 (by kernel_rfl) (by kernel_rfl)
instance:TyFn Tryz.prog 137:=TyFn.mk' Tryz.func137 (by kernel_rfl) (by kernel_rfl)
instance:TyFn Tryz.prog 138:=TyFn.mk' Tryz.func138 (by kernel_rfl) (by kernel_rfl)
instance:TyFn Tryz.prog 139:=TyFn.mk' Tryz.func139 (by kernel_rfl) (by kernel_rfl)
instance:TyFn Tryz.prog 140:=TyFn.mk' Tryz.func140 (by kernel_rfl) (by kernel_rfl)
instance:TyFn Tryz.prog 141:=TyFn.mk' Tryz.func141 (by kernel_rfl) (by kernel_rfl)
instance:TyFn Tryz.prog 142:=TyFn.mk' Tryz.func142 (by kernel_rfl) (by kernel_rfl)
instance:TyFn Tryz.prog 143:=TyFn.mk' Tryz.func143 (by kernel_rfl) (by kernel_rfl)
instance:TyFn Tryz.prog 144:=TyFn.mk' Tryz.func144 (by kernel_rfl) (by kernel_rfl)
instance:TyFn Tryz.prog 145:=TyFn.mk' Tryz.func145 (by kernel_rfl) (by kernel_rfl)
instance:TyFn Tryz.prog 149:=TyFn.mk' Tryz.func149 (by kernel_rfl) (by kernel_rfl)
instance:TyFn Tryz.prog 153:=TyFn.mk' Tryz.func153 (by kernel_rfl) (by kernel_rfl)
instance:TyFn Tryz.prog 157:=TyFn.mk' Tryz.func157 (by kernel_rfl) (by kernel_rfl)
instance:TyFn Tryz.prog 158:=TyFn.mk' Tryz.func158 (by kernel_rfl) (by kernel_rfl)
instance:TyFn Tryz.prog 159:=TyFn.mk' Tryz.func159 (by kernel_rfl) (by kernel_rfl)
instance:TyFn Tryz.prog 160:=TyFn.mk' Tryz.func160 (by kernel_rfl) (by kernel_rfl)
instance:TyFn Tryz.prog 161:=TyFn.mk' Tryz.func161 (by kernel_rfl) (by kernel_rfl)
instance:TyFn Tryz.prog 162:=TyFn.mk' Tryz.func162 (by kernel_rfl) (by kernel_rfl)
instance:TyFn Tryz.prog 163:=TyFn.mk' Tryz.func163 (by kernel_rfl) (by kernel_rfl)
instance:TyFn Tryz.prog 164:=TyFn.mk' Tryz.func164 (by kernel_rfl) (by kernel_rfl)
instance:TyFn Tryz.prog 165:=TyFn.mk' Tryz.func165 (by kernel_rfl) (by kernel_rfl)
instance:TyFn Tryz.prog 166:=TyFn.mk' Tryz.func166 (by kernel_rfl) (by kernel_rfl)
instance:TyFn Tryz.prog 167:=TyFn.mk' Tryz.func167 (by kernel_rfl) (by kernel_rfl)
instance:TyFn Tryz.prog 168:=TyFn.mk' Tryz.func168 (by kernel_rfl) (by kernel_rfl)
instance:TyFn Tryz.prog 169:=TyFn.mk' Tryz.func169 (by kernel_rfl) (by kernel_rfl)
instance:TyFn Tryz.prog 170:=TyFn.mk' Tryz.func170 (by kernel_rfl) (by kernel_rfl)
instance:TyFn Tryz.prog 171:=TyFn.mk' Tryz.func171 (by kernel_rfl) (by kernel_rfl)
instance:TyFn Tryz.prog 172:=TyFn.mk' Tryz.func172 (by kernel_rfl) (by kernel_rfl)
instance:TyFn Tryz.prog 173:=TyFn.mk' Tryz.func173 (by kernel_rfl) (by kernel_rfl)
instance:TyFn Tryz.prog 174:=TyFn.mk' Tryz.func174 (by kernel_rfl) (by kernel_rfl)
instance:TyFn Tryz.prog 175:=TyFn.mk' Tryz.func175 (by kernel_rfl) (by kernel_rfl)
instance:TyFn Tryz.prog 176:=TyFn.mk' Tryz.func176 (by kernel_rfl) (by kernel_rfl)
instance:TyFn Tryz.prog 177:=TyFn.mk' Tryz.func177 (by kernel_rfl) (by kernel_rfl)
instance:TyFn Tryz.prog 178:=TyFn.mk' Tryz.func178 (by kernel_rfl) (by kernel_rfl)
instance:TyFn Tryz.prog 179:=TyFn.mk' Tryz.func179 (by kernel_rfl) (by kernel_rfl)
instance:TyFn Tryz.prog 180:=TyFn.mk' Tryz.func180 (by kernel_rfl) (by kernel_rfl)
instance:TyFn Tryz.prog 181:=TyFn.mk' Tryz.func181 (by kernel_rfl) (by kernel_rfl)
instance:TyFn Tryz.prog 182:=TyFn.mk' Tryz.func182 (by kernel_rfl) (by kernel_rfl)
instance:TyFn Tryz.prog 183:=TyFn.mk' Tryz.func183 (by kernel_rfl) (by kernel_rfl)
instance:TyFn Tryz.prog 186:=TyFn.mk' Tryz.func186 (by kernel_rfl) (by kernel_rfl)
instance:TyFn Tryz.prog 187:=TyFn.mk' Tryz.func187 (by kernel_rfl) (by kernel_rfl)
instance:TyFn Tryz.prog 188:=TyFn.mk' Tryz.func188 (by kernel_rfl) (by kernel_rfl)
instance:TyFn Tryz.prog 189:=TyFn.mk' Tryz.func189 (by kernel_rfl) (by kernel_rfl)
instance:TyFn Tryz.prog 190:=TyFn.mk' Tryz.func190 (by kernel_rfl) (by kernel_rfl)
instance:TyFn Tryz.prog 191:=TyFn.mk' Tryz.func191 (by kernel_rfl) (by kernel_rfl)
instance:TyFn Tryz.prog 192:=TyFn.mk' Tryz.func192 (by kernel_rfl) (by kernel_rfl)
instance:TyFn Tryz.prog 193:=TyFn.mk' Tryz.func193 (by kernel_rfl) (by kernel_rfl)
instance:TyFn Tryz.prog 194:=TyFn.mk' Tryz.func194 (by kernel_rfl) (by kernel_rfl)
instance:TyFn Tryz.prog 195:=TyFn.mk' Tryz.func195 (by kernel_rfl) (by kernel_rfl)
instance:TyFn Tryz.prog 196:=TyFn.mk' Tryz.func196 (by kernel_rfl) (by kernel_rfl)
instance:TyFn Tryz.prog 197:=TyFn.mk' Tryz.func197 (by kernel_rfl) (by kernel_rfl)
instance:TyFn Tryz.prog 198:=TyFn.mk' Tryz.func198 (by kernel_rfl) (by kernel_rfl)
instance:TyFn Tryz.prog 199:=TyFn.mk' Tryz.func199 (by kernel_rfl) (by kernel_rfl)
instance:TyFn Tryz.prog 200:=TyFn.mk' Tryz.func200 (by kernel_rfl) (by kernel_rfl)
instance:TyFn Tryz.prog 201:=TyFn.mk' Tryz.func201 (by kernel_rfl) (by kernel_rfl)
instance:TyFn Tryz.prog 202:=TyFn.mk' Tryz.func202 (by kernel_rfl) (by kernel_rfl)
instance:TyFn Tryz.prog 203:=TyFn.mk' Tryz.func203 (by kernel_rfl) (by kernel_rfl)
instance:TyFn Tryz.prog 204:=TyFn.mk' Tryz.func204 (by kernel_rfl) (by kernel_rfl)
instance:TyFn Tryz.prog 205:=TyFn.mk' Tryz.func205 (by kernel_rfl) (by kernel_rfl)
instance:TyFn Tryz.prog 206:=TyFn.mk' Tryz.func206 (by kernel_rfl) (by kernel_rfl)
instance:TyFn Tryz.prog 209:=TyFn.mk' Tryz.func209 (by kernel_rfl) (by kernel_rfl)
instance:TyFn Tryz.prog 210:=TyFn.mk' Tryz.func210 (by kernel_rfl) (by kernel_rfl)
instance:TyFn Tryz.prog 211:=TyFn.mk' Tryz.func211 (by kernel_rfl) (by kernel_rfl)
instance:TyFn Tryz.prog 212:=TyFn.mk' Tryz.func212 (by kernel_rfl) (by kernel_rfl)
instance:TyFn Tryz.prog 213:=TyFn.mk' Tryz.func213 (by kernel_rfl) (by kernel_rfl)
instance:TyFn Tryz.prog 214:=TyFn.mk' Tryz.func214 (by kernel_rfl) (by kernel_rfl)
instance:TyFn Tryz.prog 215:=TyFn.mk' Tryz.func215 (by kernel_rfl) (by kernel_rfl)
instance:TyFn Tryz.prog 216:=TyFn.mk' Tryz.func216 (by kernel_rfl) (by kernel_rfl)
instance:TyFn Tryz.prog 217:=TyFn.mk' Tryz.func217 (by kernel_rfl) (by kernel_rfl)
instance:TyFn Tryz.prog 218:=TyFn.mk' Tryz.func218 (by kernel_rfl) (by kernel_rfl)
instance:TyFn Tryz.prog 219:=TyFn.mk' Tryz.func219 (by kernel_rfl) (by kernel_rfl)
instance:TyFn Tryz.prog 221:=TyFn.mk' Tryz.func221 (by kernel_rfl) (by kernel_rfl)
instance:TyFn Tryz.prog 222:=TyFn.mk' Tryz.func222 (by kernel_rfl) (by kernel_rfl)
instance:TyFn Tryz.prog 223:=TyFn.mk' Tryz.func223 (by kernel_rfl) (by kernel_rfl)
instance:TyFn Tryz.prog 224:=TyFn.mk' Tryz.func224 (by kernel_rfl) (by kernel_rfl)
instance:TyFn Tryz.prog 225:=TyFn.mk' Tryz.func225 (by kernel_rfl) (by kernel_rfl)
instance:TyFn Tryz.prog 227:=TyFn.mk' Tryz.func227 (by kernel_rfl) (by kernel_rfl)
instance:TyFn Tryz.prog 228:=TyFn.mk' Tryz.func228 (by kernel_rfl) (by kernel_rfl)
theorem mixed:Tryz.prog.follows .mixedOrders=true:=by kernel_rfl
end Go.Fl

/- Contracts, printed by gen.py. -/
namespace Go.Fl
open Go Go.Proofs
open TrL renaming op→tO
open RunD renaming op→rO
set_option maxRecDepth 100000


theorem nodup_snoc {S:List Int} {x:Int} (h:S.Nodup) (hx:decide (x∈S)=false):(S++[x]).Nodup :=
 List.nodup_append.2 ⟨h,by simp,fun a ha b hb=>by simp at hb; subst hb; exact fun e=>of_decide_eq_false hx (e▸ha)⟩
theorem ct_cloneI (p:List Int) (hn:p.length≤1000000):Ct Tryz.prog 143 [kRd (eL eI) p] (kRd (eL eI) p):=by
 refine Ct.mk Tryz.func143 rfl Tryz.ntmps143 rfl (fun w J=>?_); refine jx9 ?_; refine tO (ok_eqlNilJ rfl uu) rfl rfl ?_; refine jx2 ?_; refine Tr.exB (s:=4) rfl (fun b1 q1=>?_); refine Tr.cnd rfl ?_ ?_
 ·intro h1
  refine jx7 ?_; exact Rts.res1 (fn:=Tryz.f143) rfl (.n rfl (q1 h1).symm<|.nil)
 ·intro h1
  refine jx4 ?_; refine TrL.new (ok_bsl0 eI 5) rfl rfl rfl rfl ?_; refine jx2 ?_; refine jl ?_; refine jx3 ?_; refine Tr.frz 5 [2] ⟨rfl,trivial⟩ (by simp only[lenMax]; omega) rfl ?_; refine jx1 ?_
  exact Rts.res1 (fn:=Tryz.f143) rfl (.r rfl zi<|.nil)

end Go.Fl

/- Integers as digits to the base 10^8. Plain Lean, no program in sight. -/
namespace Go.Fl
def val:List Int→Int
 | []=>0
 | x::xs=>x+100000000*val xs
abbrev BP (n:Nat):Int:=100000000 ^ n
theorem BP_pos (n:Nat):0<BP n:=Int.pow_pos zo
theorem BP_succ (n:Nat):BP (n+1)=100000000*BP n:=by unfold BP; rw[Int.pow_succ,Int.mul_comm]
theorem BP_add (m n:Nat):BP (m+n)=BP m*BP n:=Int.pow_add ..
theorem BP_mono {m n:Nat} (h:m≤n):BP m≤BP n:=by
 obtain ⟨k,rfl⟩:=Nat.exists_eq_add_of_le h
 have h1:BP m*1≤BP m*BP k:=Int.mul_le_mul_of_nonneg_left (by have:=BP_pos k; omega) (Int.le_of_lt (BP_pos m))
 rw[BP_add]; omega
theorem val_append:∀{xs ys:List Int},val (xs++ys)=val xs+BP xs.length*val ys
 | [],ys=>by simp[val,BP]
 | x::xs,ys=>by
  rw[List.cons_append,val,val,val_append,List.length_cons,BP_succ,Int.mul_add,Int.mul_assoc]; omega
theorem val_snoc {xs:List Int} {y:Int}:val (xs++[y])=val xs+BP xs.length*y:=by rw[val_append]; simp[val]
def Dg (xs:List Int):Prop:=∀x∈xs,0≤x∧x<100000000
theorem Dg.nil:Dg []:=fun _ h=>by cases h
theorem Dg.snoc {xs:List Int} {y:Int} (h:Dg xs) (h0:0≤y) (h1:y<100000000):Dg (xs++[y]):=fun x hx=>by
 rcases List.mem_append.1 hx with hx | hx
 ·exact h x hx
 ·simp at hx; subst hx; exact ⟨h0,h1⟩
theorem Dg.at {xs:List Int} (h:Dg xs) {i:Nat} (hi:i<xs.length):0≤nth xs i∧nth xs i<100000000:=h _ (nth_mem hi)
theorem Dg.tail {x:Int} {xs:List Int} (h:Dg (x::xs)):Dg xs:=fun y hy=>h y (List.mem_cons_of_mem _ hy)
theorem Dg.take {xs:List Int} (h:Dg xs) (n:Nat):Dg (xs.take n):=fun y hy=>h y (List.mem_of_mem_take hy)
theorem Dg.val0:∀{xs:List Int},Dg xs→0≤val xs
 | [],_=>Int.le_refl _
 | x::xs,h=>by
  have:=h x List.mem_cons_self
  have:=Dg.val0 h.tail
  rw[val]; omega
theorem Dg.val1:∀{xs:List Int},Dg xs→val xs<BP xs.length
 | [],_=>by simp[val,BP]
 | x::xs,h=>by
  have:=h x List.mem_cons_self
  have:=Dg.val1 h.tail
  rw[val,List.length_cons,BP_succ]; omega
structure Nm (xs:List Int):Prop where
 dg:Dg xs
 last:∀h:xs≠[],xs.getLast h≠0
theorem Nm.nil:Nm []:=⟨Dg.nil,fun h=>absurd rfl h⟩
theorem Nm.tail {x:Int} {xs:List Int} (h:Nm (x::xs)):Nm xs:=⟨h.dg.tail,fun hn=>by
 have:=h.last (by simp)
 rwa [List.getLast_cons hn] at this⟩
theorem Nm.pos:∀{xs:List Int},Nm xs→xs≠[]→0<val xs
 | [],_,h=>absurd rfl h
 | x::xs,h,_=>by
  have h1:=h.dg x List.mem_cons_self
  rw[val]
  by_cases hn:xs=[]
  ·subst hn
   have:=h.last (by simp)
   simp at this
   simp[val]; omega
  ·have:=Nm.pos h.tail hn
   omega
theorem Nm.uniq:∀{xs ys:List Int},Nm xs→Nm ys→val xs=val ys→xs=ys
 | [],[],_,_,_=>rfl
 | [],y::ys,_,h,e=>by have:=h.pos (by simp); rw[← e] at this; simp[val] at this
 | x::xs,[],h,_,e=>by have:=h.pos (by simp); rw[e] at this; simp[val] at this
 | x::xs,y::ys,h,k,e=>by
  have h1:=h.dg x List.mem_cons_self
  have h2:=k.dg y List.mem_cons_self
  rw[val,val] at e
  obtain rfl:x=y:=by omega
  rw[Nm.uniq h.tail k.tail zo]
def digF:Nat→Nat→List Int
 | 0,_=>[]
 | f+1,n=>if n=0 then [] else ((n%100000000:Nat):Int)::digF f (n/100000000)
theorem digF_spec:∀{f n:Nat},n≤f→Nm (digF f n)∧val (digF f n)=n
 | 0,n,h=>by
  obtain rfl:n=0:=by omega
  exact ⟨Nm.nil,rfl⟩
 | f+1,n,h=>by
  rw[digF]
  by_cases e:n=0
  ·rw[if_pos e]; subst e; exact ⟨Nm.nil,rfl⟩
  ·rw[if_neg e]
   obtain ⟨h1,h2⟩:=digF_spec (f:=f) (n:=n/100000000) zo
   refine ⟨⟨fun x hx=>?_,fun hn=>?_⟩,?_⟩
   ·rcases List.mem_cons.1 hx with rfl | hx
    ·omega
    ·exact h1.dg x hx
   ·by_cases hq:digF f (n/100000000)=[]
    ·have:n/100000000=0:=by rw[hq] at h2; simp[val] at h2; omega
     simp only[hq,List.getLast_singleton]; omega
    ·rw[List.getLast_cons hq]; exact h1.last hq
   ·rw[val,h2]; omega
def digN (n:Nat):List Int:=digF n n
theorem digN_nm (n:Nat):Nm (digN n):=(digF_spec (Nat.le_refl n)).1
theorem digN_val (n:Nat):val (digN n)=n:=(digF_spec (Nat.le_refl n)).2
theorem digN_dg (n:Nat):Dg (digN n):=(digN_nm n).dg
theorem digN_of {xs:List Int} {n:Nat} (h:Nm xs) (e:val xs=n):xs=digN n:=h.uniq (digN_nm n) (by rw[digN_val,e])
theorem digN_zero:digN 0=[]:=rfl
theorem digN_nil {n:Nat}:digN n=[]↔n=0:=⟨fun h=>by have:=digN_val n; rw[h] at this; simp[val] at this; omega,fun h=>by subst h; rfl⟩
theorem digN_len0 {n:Nat}:(digN n).length=0↔n=0:=by rw[List.length_eq_zero_iff,digN_nil]
def dl (z:Int):Nat:=(digN z.natAbs).length
theorem dl_lt (z:Int):(z.natAbs:Int)<BP (dl z):=by
 have:=(digN_dg z.natAbs).val1
 rwa [digN_val] at this
theorem Nm.low:∀{xs:List Int},Nm xs→xs≠[]→BP (xs.length-1)≤val xs
 | [],_,h=>absurd rfl h
 | x::xs,h,_=>by
  have h1:=h.dg x List.mem_cons_self
  rw[val,List.length_cons,Nat.add_sub_cancel]
  by_cases hn:xs=[]
  ·subst hn
   have:=h.pos (by simp)
   simp[val,BP] at this ⊢; omega
  ·have:=Nm.low h.tail hn
   have hl:xs.length=(xs.length-1)+1:=by have:=List.length_pos_iff.2 hn; omega
   rw[hl,BP_succ]; omega
theorem dl_le {z:Int} {k:Nat} (h:(z.natAbs:Int)<BP k):dl z≤k:=by
 by_cases hn:digN z.natAbs=[]
 ·unfold dl; rw[hn]; exact Nat.zero_le _
 ·have h1:=(digN_nm z.natAbs).low hn
  rw[digN_val] at h1
  have hl:0<dl z:=List.length_pos_iff.2 hn
  rcases Nat.lt_or_ge k (dl z) with h2 | h2
  ·have:=BP_mono (show k≤dl z-1 by omega)
   unfold dl at *; omega
  ·exact h2
theorem dl_add (a b:Int):dl (a+b)≤max (dl a) (dl b)+1:=by
 refine dl_le ?_
 have h1:=dl_lt a; have h2:=dl_lt b
 have h3:=BP_mono (Nat.le_max_left (dl a) (dl b)); have h4:=BP_mono (Nat.le_max_right (dl a) (dl b))
 rw[BP_succ]; omega
theorem dl_mul (a b:Int):dl (a*b)≤dl a+dl b:=by
 refine dl_le ?_
 have h1:=dl_lt a; have h2:=dl_lt b
 rw[Int.natAbs_mul,BP_add]
 push_cast
 by_cases hb:b.natAbs=0
 ·rw[hb]; simp; exact Int.mul_pos (BP_pos _) (BP_pos _)
 ·exact Int.lt_of_lt_of_le (Int.mul_lt_mul_of_pos_right h1 zo) (Int.mul_le_mul_of_nonneg_left (Int.le_of_lt h2) (Int.le_of_lt (BP_pos _)))
theorem dl_neg (a:Int):dl (-a)=dl a:=by unfold dl; rw[Int.natAbs_neg]
theorem dl_zero {a:Int}:dl a=0↔a=0:=by unfold dl; rw[digN_len0]; omega
def trimL:List Int→List Int
 | []=>[]
 | x::xs=>if trimL xs=[]∧x=0 then [] else x::trimL xs
theorem trim_val:∀{xs:List Int},val (trimL xs)=val xs
 | []=>rfl
 | x::xs=>by
  have ih:=trim_val (xs:=xs)
  rw[trimL]
  split
  ·rename_i h
   rw[h.1] at ih
   show 0=x+100000000*val xs
   rw[← ih,h.2]; simp[val]
  ·rw[val,val,ih]
theorem trim_len:∀{xs:List Int},(trimL xs).length≤xs.length
 | []=>Nat.le_refl _
 | x::xs=>by
  have:=trim_len (xs:=xs)
  rw[trimL]; split
  ·simp
  ·simp only[List.length_cons]; omega
theorem trim_mem:∀{xs:List Int} {x:Int},x∈trimL xs→x∈xs
 | [],_,h=>h
 | y::ys,x,h=>by
  rw[trimL] at h
  split at h
  ·cases h
  ·rcases List.mem_cons.1 h with rfl | h
   ·exact List.mem_cons_self
   ·exact List.mem_cons_of_mem _ (trim_mem h)
theorem trim_last:∀{xs:List Int} (h:trimL xs≠[]),(trimL xs).getLast h≠0
 | [],h=>absurd rfl h
 | x::xs,h=>by
  have e:trimL (x::xs)=x::trimL xs:=by
   rw[trimL] at h ⊢
   split
   ·rename_i hh; rw[if_pos hh] at h; exact absurd rfl h
   ·rfl
  by_cases hn:trimL xs=[]
  ·have hx:x≠0:=fun hx=>by rw[trimL,if_pos ⟨hn,hx⟩] at h; exact h rfl
   simp only[e,hn,List.getLast_singleton]; exact hx
  ·simp only[e,List.getLast_cons hn]; exact trim_last hn
theorem trim_nm {xs:List Int} (h:Dg xs):Nm (trimL xs):=⟨fun x hx=>h x (trim_mem hx),trim_last⟩
theorem trim_dig {xs:List Int} (h:Dg xs) {n:Nat} (e:val xs=n):trimL xs=digN n:=digN_of (trim_nm h) (by rw[trim_val,e])
theorem trim_zero:∀{xs:List Int},(∀i,i<xs.length→nth xs i=0)→trimL xs=[]
 | [],_=>rfl
 | x::xs,h=>by
  rw[trimL,if_pos ⟨trim_zero fun i hi=>h (i+1) (by simpa using hi),h 0 (by simp)⟩]
theorem trim_take:∀{xs:List Int} {m:Nat},m≤xs.length→(∀i,m≤i→i<xs.length→nth xs i=0)→(m=0∨nth xs (m-1)≠0)→trimL xs=xs.take m
 | xs,0,_,h,_=>by rw[List.take_zero]; exact trim_zero fun i hi=>h i (Nat.zero_le _) hi
 | [],m+1,hm,_,_=>by simp at hm
 | x::xs,m+1,hm,h,hl=>by
  have hz:∀i,m≤i→i<xs.length→nth xs i=0:=fun i h1 h2=>h (i+1) zo (by simpa using h2)
  rw[List.take_succ_cons,trimL]
  rcases Nat.eq_zero_or_pos m with rfl | hm0
  ·have hx:x≠0:=by rcases hl with hl | hl; omega; exact hl
   rw[if_neg (fun hh=>hx hh.2),trim_zero fun i hi=>hz i (Nat.zero_le _) hi]; rfl
  ·have hl':nth xs (m-1)≠0:=by
    rcases hl with hl | hl
    ·omega
    ·rw[show m+1-1=(m-1)+1 by omega] at hl; exact hl
   have ih:=trim_take (xs:=xs) (m:=m) (by simpa using hm) hz (.inr hl')
   have hne:trimL xs≠[]:=by rw[ih]; exact fun hh=>by (have h5:=congrArg List.length hh; rw[List.length_take,List.length_nil] at h5; rw[List.length_cons] at hm; omega)
   rw[if_neg (fun hh=>hne hh.1),ih]
def xAt (xs:List Int) (i:Nat):Int:=if i<xs.length then nth xs i else 0
def rdS (xs:List Int):Nat→List Int×Int
 | 0=>([],0)
 | i+1=>((rdS xs i).1++[(xAt xs i+(rdS xs i).2)%100000000],(xAt xs i+(rdS xs i).2)/100000000)
theorem rdS_len {xs:List Int}:∀{i:Nat},(rdS xs i).1.length=i
 | 0=>rfl
 | i+1=>by rw[rdS,List.length_append,rdS_len]; rfl
theorem rdS_dg {xs:List Int}:∀{i:Nat},Dg (rdS xs i).1
 | 0=>Dg.nil
 | i+1=>by rw[rdS]; exact rdS_dg.snoc (Int.emod_nonneg _ zo) (Int.emod_lt_of_pos _ zo)
theorem take_val {xs:List Int} {i:Nat}:val (xs.take (i+1))=val (xs.take i)+BP i*xAt xs i:=by
 unfold xAt
 by_cases h:i<xs.length
 ·rw[if_pos h,take_succ_nth h,val_snoc,List.length_take,Nat.min_eq_left zo]
 ·rw[if_neg h,List.take_of_length_le zo,List.take_of_length_le zo]; simp
theorem rdS_val {xs:List Int}:∀{i:Nat},val (rdS xs i).1+BP i*(rdS xs i).2=val (xs.take i)
 | 0=>by simp[rdS,val]
 | i+1=>by
  have ih:=rdS_val (xs:=xs) (i:=i)
  rw[rdS,take_val,← ih,val_snoc,rdS_len,BP_succ]
  generalize xAt xs i=x
  generalize (rdS xs i).2=c
  have h:=Int.emod_add_mul_ediv (x+c) 100000000
  have h2:BP i*(x+c)=BP i*((x+c)%100000000)+BP i*(100000000*((x+c)/100000000)):=by rw[← Int.mul_add,h]
  have h3:100000000*BP i*((x+c)/100000000)=BP i*(100000000*((x+c)/100000000)):=by rw[Int.mul_comm 100000000 (BP i),Int.mul_assoc]
  rw[h3]
  rw[Int.mul_add] at h2
  omega
def InI (xs:List Int):Prop:=∀i,i<xs.length→-9223372036854775808≤nth xs i∧nth xs i≤9223372036854775807
theorem InI.x {xs:List Int} (h:InI xs) (i:Nat):-9223372036854775808≤xAt xs i∧xAt xs i≤9223372036854775807:=by
 unfold xAt
 split
 ·exact h i (by assumption)
 ·omega
theorem Dg.inI {xs:List Int} (h:Dg xs):InI xs:=fun i hi=>by have:=h.at hi; omega
theorem rdS_c {xs:List Int} (h:InI xs):∀{i:Nat},-100000000000≤(rdS xs i).2∧(rdS xs i).2≤100000000000
 | 0=>by simp[rdS]
 | i+1=>by
  have:=rdS_c h (i:=i)
  have:=h.x i
  rw[rdS]; simp only; omega
theorem rdS_split {xs:List Int} {i:Nat}:xAt xs i/100000000+(xAt xs i%100000000+(rdS xs i).2)/100000000=(rdS xs (i+1)).2∧(xAt xs i%100000000+(rdS xs i).2)%100000000=(xAt xs i+(rdS xs i).2)%100000000:=by
 rw[rdS]; simp only; omega
theorem rdS_pos {xs:List Int} {i:Nat} (hi:xs.length≤i) (h:(rdS xs i).2=0):val xs=val (rdS xs i).1:=by
 have:=rdS_val (xs:=xs) (i:=i)
 rw[h,Int.mul_zero,Int.add_zero,List.take_of_length_le hi] at this
 exact this.symm
theorem rdS_neg {xs:List Int} {i:Nat} (hi:xs.length≤i) (h:(rdS xs i).2=-1):val xs=val (rdS xs i).1-BP i:=by
 have:=rdS_val (xs:=xs) (i:=i)
 rw[h,List.take_of_length_le hi] at this
 omega
def bw (ds:List Int):Nat→Int
 | 0=>0
 | k+1=>if -(nth ds k)-bw ds k<0 then 1 else 0
theorem bw_01 {ds:List Int}:∀{k:Nat},bw ds k=0∨bw ds k=1
 | 0=>.inl rfl
 | k+1=>by rw[bw]; split; exact .inr rfl; exact .inl rfl
def cmD (ds:List Int) (j:Nat):Int:=if -(nth ds j)-bw ds j<0 then -(nth ds j)-bw ds j+100000000 else -(nth ds j)-bw ds j
def cmL (ds:List Int) (k:Nat):List Int:=tab ds.length fun j=>if j<k then cmD ds j else nth ds j
theorem cmL_len {ds:List Int} {k:Nat}:(cmL ds k).length=ds.length:=tab_len
theorem cmL_zero {ds:List Int}:ds=cmL ds 0:=by
 unfold cmL
 exact (tab_nth rfl).trans (tab_congr fun j _=>by rw[if_neg zo])
theorem cmL_at {ds:List Int} {k:Nat} (h:k<ds.length):nth (cmL ds k) k=nth ds k:=by unfold cmL; rw[nth_tab h,if_neg zo]
theorem cmL_succ {ds:List Int} {k:Nat}:(cmL ds k).set k (cmD ds k)=cmL ds (k+1):=by
 unfold cmL
 rw[tab_set]
 refine tab_congr fun j _=>?_
 by_cases e:j=k
 ·subst e; rw[if_pos rfl,if_pos zo]
 ·rw[if_neg e]
  by_cases h:j<k
  ·rw[if_pos h,if_pos zo]
  ·rw[if_neg h,if_neg zo]
theorem cmD_rng {ds:List Int} (h:Dg ds) {j:Nat} (hj:j<ds.length):0≤cmD ds j∧cmD ds j<100000000:=by
 have:=h.at hj
 unfold cmD
 rcases bw_01 (ds:=ds) (k:=j) with e | e<;>rw[e]<;>split<;>omega
theorem cm_val {ds:List Int} (h:Dg ds):∀{k:Nat},k≤ds.length→val (tab k (cmD ds))=BP k*bw ds k-val (ds.take k)∧(bw ds k=0→val (ds.take k)=0)
 | 0,_=>by simp[tab,val,bw]
 | k+1,hk=>by
  obtain ⟨ih,ih0⟩:=cm_val h (k:=k) zo
  have hr:=h.at (i:=k) zo
  rw[tab_succ,val_snoc,tab_len,ih,take_succ_nth zo,val_snoc,List.length_take,Nat.min_eq_left zo,BP_succ,bw]
  have h01:=bw_01 (ds:=ds) (k:=k)
  have hp:=BP_pos k
  unfold cmD
  split
  ·rename_i hn
   refine ⟨?_,fun hh=>absurd hh zo⟩
   rw[Int.mul_add (BP k),Int.mul_sub (BP k),Int.mul_neg]
   rw[Int.mul_comm 100000000 (BP k),Int.mul_assoc]
   omega
  ·rename_i hn
   have h0:nth ds k=0∧bw ds k=0:=by omega
   rw[h0.1,h0.2,ih0 h0.2]
   simp
theorem cm_pos {ds:List Int} (h:Dg ds) (e:bw ds ds.length≠0):Dg (cmL ds ds.length)∧val (cmL ds ds.length)=BP ds.length-val ds:=by
 have e1:cmL ds ds.length=tab ds.length (cmD ds):=tab_congr fun j hj=>if_pos hj
 have hv:=(cm_val h (Nat.le_refl ds.length)).1
 rw[List.take_length,(bw_01.resolve_left e),Int.mul_one] at hv
 rw[e1]
 refine ⟨fun x hx=>?_,hv⟩
 obtain ⟨j,hj,rfl⟩:=mem_nth hx
 rw[tab_len] at hj
 rw[nth_tab hj]; exact cmD_rng h hj
theorem cm_zero {ds:List Int} (h:Dg ds) (e:bw ds ds.length=0):Dg (cmL ds ds.length++[1])∧val (cmL ds ds.length++[1])=BP ds.length-val ds:=by
 have e1:cmL ds ds.length=tab ds.length (cmD ds):=tab_congr fun j hj=>if_pos hj
 obtain ⟨hv,hz⟩:=cm_val h (Nat.le_refl ds.length)
 have hz:=hz e
 rw[List.take_length] at hv hz
 rw[e,hz] at hv
 rw[e1]
 refine ⟨Dg.snoc (fun x hx=>?_) zo zo,?_⟩
 ·obtain ⟨j,hj,rfl⟩:=mem_nth hx
  rw[tab_len] at hj
  rw[nth_tab hj]; exact cmD_rng h hj
 ·rw[val_snoc,tab_len,hv,hz]; simp
def lstZ (z:Int):List Int:=if z<0 then (digN z.natAbs).map (fun x=>-x) else digN z.natAbs
theorem val_neg:∀{xs:List Int},val (xs.map fun x=>-x)=-val xs
 | []=>rfl
 | x::xs=>by rw[List.map_cons,val,val,val_neg]; omega
theorem lst_val (z:Int):val (lstZ z)=z:=by
 unfold lstZ
 split
 ·rw[val_neg,digN_val]; omega
 ·rw[digN_val]; omega
theorem lst_len (z:Int):(lstZ z).length=dl z:=by unfold lstZ dl; split<;>simp
theorem lst_zero:lstZ 0=[]:=rfl
theorem lst_in (z:Int):InI (lstZ z):=fun i hi=>by
 unfold lstZ at hi ⊢
 split
 ·rename_i h
  rw[if_pos h,List.length_map] at hi
  rw[nth_map hi]
  have:=(digN_dg z.natAbs).at hi
  omega
 ·rename_i h
  rw[if_neg h] at hi
  have:=(digN_dg z.natAbs).at hi
  omega
end Go.Fl

/- Sums, differences, comparisons and products of digits. Plain Lean, no program in sight. -/
namespace Go.Fl
theorem nm_of_low {xs:List Int} (h:Dg xs) (k:xs≠[]→BP (xs.length-1)≤val xs):Nm xs:=by
 refine ⟨h,fun hn e=>?_⟩
 have e2:xs=xs.dropLast++[xs.getLast hn]:=(List.dropLast_concat_getLast hn).symm
 have h1:=k hn
 rw[e] at e2
 have h2:Dg xs.dropLast:=fun x hx=>h x ((List.dropLast_sublist xs).subset hx)
 have h3:=h2.val1
 rw[e2,val_snoc,Int.mul_zero,Int.add_zero] at h1
 rw[List.length_append,List.length_singleton,Nat.add_sub_cancel] at h1
 omega
theorem val_drop {xs:List Int} {i:Nat} (h:i<xs.length):val (xs.drop i)=nth xs i+100000000*val (xs.drop (i+1)):=by
 rw[List.drop_eq_getElem_cons h,val,nth_of_get? (List.getElem?_eq_getElem h)]
theorem val_split {xs:List Int} {i:Nat} (h:i≤xs.length):val xs=val (xs.take i)+BP i*val (xs.drop i):=by
 conv=>lhs; rw[← List.take_append_drop i xs]
 rw[val_append,List.length_take,Nat.min_eq_left h]
theorem val_set:∀{xs:List Int} {i:Nat} {v:Int},i<xs.length→val (xs.set i v)=val xs+BP i*(v-nth xs i)
 | [],_,_,h=>by simp at h
 | x::xs,0,v,_=>by simp only[List.set_cons_zero,val,BP,Int.pow_zero]; show _=_+1*(v-x); omega
 | x::xs,i+1,v,h=>by
  rw[List.set_cons_succ,val,val,val_set (by simpa using h),BP_succ,Int.mul_add,Int.mul_assoc]
  show _=_+100000000*(BP i*(v-nth xs i))
  omega
theorem Dg.set {xs:List Int} (h:Dg xs) {i:Nat} {v:Int} (h0:0≤v) (h1:v<100000000):Dg (xs.set i v):=fun x hx=>by
 rcases List.mem_or_eq_of_mem_set hx with hx | rfl
 ·exact h x hx
 ·exact ⟨h0,h1⟩
theorem Dg.x {xs:List Int} (h:Dg xs) (i:Nat):0≤xAt xs i∧xAt xs i<100000000:=by
 unfold xAt; split
 ·exact h.at (by assumption)
 ·omega
theorem xAt_in {xs:List Int} {i:Nat} (h:i<xs.length):xAt xs i=nth xs i:=if_pos h
theorem xAt_out {xs:List Int} {i:Nat} (h:¬i<xs.length):xAt xs i=0:=if_neg h
theorem dg_rep {n:Nat}:Dg (List.replicate n 0):=fun x hx=>by rw[List.eq_of_mem_replicate hx]; omega
theorem val_rep {n:Nat}:val (List.replicate n 0)=0:=by
 induction n with
 | zero=>rfl
 | succ n ih=>rw[List.replicate_succ,val,ih]; omega
def adS (a b:List Int):Nat→List Int×Int
 | 0=>([],0)
 | i+1=>((adS a b i).1++[(nth a i+(adS a b i).2+xAt b i)%100000000],(nth a i+(adS a b i).2+xAt b i)/100000000)
theorem adS_len {a b:List Int}:∀{i:Nat},(adS a b i).1.length=i
 | 0=>rfl
 | i+1=>by rw[adS,List.length_append,adS_len]; rfl
theorem adS_dg {a b:List Int}:∀{i:Nat},Dg (adS a b i).1
 | 0=>Dg.nil
 | i+1=>by rw[adS]; exact adS_dg.snoc (Int.emod_nonneg _ zo) (Int.emod_lt_of_pos _ zo)
theorem adS_c {a b:List Int} (ha:Dg a) (hb:Dg b):∀{i:Nat},i≤a.length→0≤(adS a b i).2∧(adS a b i).2≤1
 | 0,_=>by simp[adS]
 | i+1,h=>by
  have:=adS_c ha hb (i:=i) zo
  have:=ha.at (i:=i) zo
  have:=hb.x i
  rw[adS]; simp only; omega
theorem mul_div_BP {n:Nat} (x:Int):BP n*x=BP n*(x%100000000)+BP (n+1)*(x/100000000):=by
 have h:=Int.emod_add_mul_ediv x 100000000
 rw[BP_succ,Int.mul_comm 100000000 (BP n),Int.mul_assoc,← Int.mul_add,h]
theorem adS_val {a b:List Int}:∀{i:Nat},i≤a.length→val (adS a b i).1+BP i*(adS a b i).2=val (a.take i)+val (b.take i)
 | 0,_=>by simp[adS,val]
 | i+1,h=>by
  have ih:=adS_val (a:=a) (b:=b) (i:=i) zo
  have e:=mul_div_BP (n:=i) (nth a i+(adS a b i).2+xAt b i)
  rw[Int.mul_add,Int.mul_add] at e
  rw[adS,take_val (xs:=a),take_val (xs:=b),val_snoc,adS_len,xAt_in (xs:=a) zo]
  dsimp only
  omega
theorem add_zero {a b:List Int} (ha:Nm a) (hb:Nm b) (hl:b.length≤a.length) (h:(adS a b a.length).2=0):(adS a b a.length).1=digN (val a+val b).toNat:=by
 have hv:=adS_val (a:=a) (b:=b) (Nat.le_refl _)
 rw[h,Int.mul_zero,Int.add_zero,List.take_length,List.take_of_length_le hl] at hv
 have h0:=ha.dg.val0; have h1:=hb.dg.val0
 refine digN_of (nm_of_low adS_dg fun hn=>?_) (by rw[hv]; omega)
 have hne:a≠[]:=fun e=>hn (List.eq_nil_of_length_eq_zero (by rw[adS_len,e]; rfl))
 have:=ha.low hne
 rw[adS_len,hv]; omega
theorem add_one {a b:List Int} (ha:Nm a) (hb:Nm b) (hl:b.length≤a.length) (h:(adS a b a.length).2=1):(adS a b a.length).1++[1]=digN (val a+val b).toNat:=by
 have hv:=adS_val (a:=a) (b:=b) (Nat.le_refl _)
 rw[h,Int.mul_one,List.take_length,List.take_of_length_le hl] at hv
 have h0:=ha.dg.val0; have h1:=hb.dg.val0
 have h2:val ((adS a b a.length).1++[1])=val a+val b:=by rw[val_snoc,adS_len]; omega
 refine digN_of (nm_of_low (adS_dg.snoc zo zo) fun _=>?_) (by rw[h2]; omega)
 have:=(adS_dg (a:=a) (b:=b) (i:=a.length)).val0
 rw[h2,List.length_append,adS_len,List.length_singleton,Nat.add_sub_cancel]; omega
def sb (a b:List Int):Nat→Int
 | 0=>0
 | k+1=>if nth a k-sb a b k-xAt b k<0 then 1 else 0
theorem sb_01 {a b:List Int}:∀{k:Nat},sb a b k=0∨sb a b k=1
 | 0=>.inl rfl
 | k+1=>by rw[sb]; split; exact .inr rfl; exact .inl rfl
def sbD (a b:List Int) (j:Nat):Int:=if nth a j-sb a b j-xAt b j<0 then nth a j-sb a b j-xAt b j+100000000 else nth a j-sb a b j-xAt b j
def sbL (a b:List Int) (k:Nat):List Int:=tab a.length fun j=>if j<k then sbD a b j else nth a j
theorem sbL_len {a b:List Int} {k:Nat}:(sbL a b k).length=a.length:=tab_len
theorem sbL_zero {a b:List Int}:a=sbL a b 0:=by
 unfold sbL
 exact (tab_nth rfl).trans (tab_congr fun j _=>by rw[if_neg zo])
theorem sbL_at {a b:List Int} {k:Nat} (h:k<a.length):nth (sbL a b k) k=nth a k:=by unfold sbL; rw[nth_tab h,if_neg zo]
theorem sbL_succ {a b:List Int} {k:Nat}:(sbL a b k).set k (sbD a b k)=sbL a b (k+1):=by
 unfold sbL
 rw[tab_set]
 refine tab_congr fun j _=>?_
 by_cases e:j=k
 ·subst e; rw[if_pos rfl,if_pos zo]
 ·rw[if_neg e]
  by_cases h:j<k
  ·rw[if_pos h,if_pos zo]
  ·rw[if_neg h,if_neg zo]
theorem sbD_rng {a b:List Int} (ha:Dg a) (hb:Dg b) {j:Nat} (hj:j<a.length):0≤sbD a b j∧sbD a b j<100000000:=by
 have:=ha.at hj
 have:=hb.x j
 unfold sbD
 rcases sb_01 (a:=a) (b:=b) (k:=j) with e | e<;>rw[e]<;>split<;>omega
theorem sb_val {a b:List Int}:∀{k:Nat},k≤a.length→val (tab k (sbD a b))=val (a.take k)-val (b.take k)+BP k*sb a b k
 | 0,_=>by simp[tab,val,sb]
 | k+1,hk=>by
  have ih:=sb_val (a:=a) (b:=b) (k:=k) zo
  rw[tab_succ,val_snoc,tab_len,ih,take_val (xs:=a),take_val (xs:=b),xAt_in (xs:=a) zo,BP_succ,sb]
  unfold sbD
  rw[Int.mul_comm 100000000 (BP k),Int.mul_assoc]
  split
  ·rw[Int.mul_add,Int.mul_sub,Int.mul_sub]; omega
  ·rw[Int.mul_sub,Int.mul_sub]; simp; omega
theorem sub_spec {a b:List Int} (ha:Dg a) (hb:Dg b) (hl:b.length≤a.length) (hle:val b≤val a):trimL (sbL a b a.length)=digN (val a-val b).toNat:=by
 have e1:sbL a b a.length=tab a.length (sbD a b):=tab_congr fun j hj=>if_pos hj
 have hd:Dg (tab a.length (sbD a b)):=fun x hx=>by
  obtain ⟨j,hj,rfl⟩:=mem_nth hx
  rw[tab_len] at hj
  rw[nth_tab hj]; exact sbD_rng ha hb hj
 have hv:=sb_val (a:=a) (b:=b) (Nat.le_refl _)
 rw[List.take_length,List.take_of_length_le hl] at hv
 have h1:=hd.val1
 rw[tab_len] at h1
 have hz:sb a b a.length=0:=by
  rcases sb_01 (a:=a) (b:=b) (k:=a.length) with e | e
  ·exact e
  ·rw[e,Int.mul_one] at hv; omega
 rw[hz,Int.mul_zero,Int.add_zero] at hv
 rw[e1]
 exact trim_dig hd (by rw[hv]; omega)
theorem cmp_len {a b:List Int} (ha:Nm a) (hb:Nm b) (h:a.length<b.length):val a<val b:=by
 have h1:=ha.dg.val1
 have h2:=hb.low (fun e=>by rw[e] at h; simp at h)
 have:=BP_mono (show a.length≤b.length-1 by omega)
 omega
theorem cmp_at {a b:List Int} (ha:Dg a) (hb:Dg b) (hl:a.length=b.length) {i:Nat} (hi:i<a.length) (h:∀j,i<j→j<a.length→nth a j=nth b j) (hlt:nth a i<nth b i):val a<val b:=by
 have e:a.drop (i+1)=b.drop (i+1):=by
  refine ext_nth (by simp[hl]) fun j hj=>?_
  rw[List.length_drop] at hj
  have:=h (i+1+j) zo zo
  unfold nth at this ⊢
  simpa [List.getD_eq_getElem?_getD,List.getElem?_drop] using this
 have h1:=val_split (xs:=a) (i:=i) zo
 have h2:=val_split (xs:=b) (i:=i) zo
 rw[val_drop hi] at h1
 rw[val_drop zo,← e] at h2
 have h3:=(ha.take i).val1
 have h4:=(hb.take i).val0
 rw[List.length_take,Nat.min_eq_left zo] at h3
 have h5:BP i*(nth a i+100000000*val (a.drop (i+1))+1)≤BP i*(nth b i+100000000*val (a.drop (i+1))):=Int.mul_le_mul_of_nonneg_left zo (Int.le_of_lt (BP_pos i))
 rw[Int.mul_add,Int.mul_one] at h5
 omega
theorem cmp_eq {a b:List Int} (hl:a.length=b.length) (h:∀j,j<a.length→nth a j=nth b j):a=b:=ext_nth hl h
def cmpZ (x y:Int):Int:=if x<y then -1 else if y<x then 1 else 0
structure MuS (a b o:List Int) (i k:Nat) (c:Int):Prop where
 len:o.length=a.length+b.length
 dg:Dg o
 c0:0≤c∧c<100000000
 z:∀j,i+b.length≤j→j<o.length→nth o j=0
 v:val o+BP (i+k)*c=val (a.take i)*val b+BP i*nth a i*val (b.take k)
structure MuR (a b o:List Int) (i:Nat):Prop where
 len:o.length=a.length+b.length
 dg:Dg o
 z:∀j,i+b.length≤j→j<o.length→nth o j=0
 v:val o=val (a.take i)*val b
section
variable {a b o:List Int} {i k:Nat} {c:Int}
theorem MuR.start:MuR a b (List.replicate (a.length+b.length) 0) 0 :=
 ⟨by simp,dg_rep,fun j _ hj=>nth_rep (by simpa using hj),by rw[val_rep]; simp[val]⟩
theorem MuR.row (h:MuR a b o i):MuS a b o i 0 0:=⟨h.len,h.dg,by omega,h.z,by rw[h.v]; simp[val]⟩
theorem MuS.n (ha:Dg a) (hb:Dg b) (h:MuS a b o i k c) (hi:i<a.length) (hk:k<b.length):0≤nth o (i+k)∧nth o (i+k)<100000000∧0≤nth a i*nth b k∧nth a i*nth b k≤9999999800000001:=by
 have h1:=h.dg.at (i:=i+k) (by rw[h.len]; omega)
 have h2:=ha.at hi
 have h3:=hb.at hk
 refine ⟨h1.1,h1.2,Int.mul_nonneg h2.1 h3.1,?_⟩
 have:nth a i*nth b k≤99999999*99999999:=Int.mul_le_mul zo zo h3.1 zo
 omega
theorem MuS.next (ha:Dg a) (hb:Dg b) (h:MuS a b o i k c) (hi:i<a.length) (hk:k<b.length):MuS a b (o.set (i+k) ((nth o (i+k)+nth a i*nth b k+c)%100000000)) i (k+1) ((nth o (i+k)+nth a i*nth b k+c)/100000000):=by
 obtain ⟨n1,n2,n3,n4⟩:=h.n ha hb hi hk
 have hc:=h.c0
 have hik:i+k<o.length:=by rw[h.len]; omega
 refine ⟨by rw[List.length_set]; exact h.len,h.dg.set (Int.emod_nonneg _ zo) (Int.emod_lt_of_pos _ zo),by omega,fun j h1 h2=>?_,?_⟩
 ·rw[List.length_set] at h2
  rw[nth_set h2,if_neg zo]; exact h.z j h1 h2
 ·have e:=mul_div_BP (n:=i+k) (nth o (i+k)+nth a i*nth b k+c)
  rw[Int.mul_add,Int.mul_add] at e
  have hv:=h.v
  have e2:BP i*nth a i*val (b.take (k+1))=BP i*nth a i*val (b.take k)+BP (i+k)*(nth a i*nth b k):=by
   rw[take_val,xAt_in hk,Int.mul_add,BP_add]
   congr 1
   rw[Int.mul_assoc,Int.mul_assoc,Int.mul_left_comm (nth a i)]
  rw[val_set hik,e2,Int.mul_sub,← Nat.add_assoc]
  omega
theorem MuS.done (h:MuS a b o i b.length c) (hi:i<a.length):MuR a b (o.set (i+b.length) c) (i+1):=by
 have hl:i+b.length<o.length:=by rw[h.len]; omega
 have hz:=h.z (i+b.length) (Nat.le_refl _) hl
 refine ⟨by rw[List.length_set]; exact h.len,h.dg.set h.c0.1 h.c0.2,fun j h1 h2=>?_,?_⟩
 ·rw[List.length_set] at h2
  rw[nth_set h2,if_neg zo]; exact h.z j zo h2
 ·have hv:=h.v
  rw[List.take_length] at hv
  rw[val_set hl,hz,Int.sub_zero,take_val,xAt_in hi,Int.add_mul]; exact hv
theorem MuR.fin (h:MuR a b o a.length) (ha:Dg a) (hb:Dg b):trimL o=digN (val a*val b).toNat:=by
 have hv:=h.v
 rw[List.take_length] at hv
 have:=Int.mul_nonneg ha.val0 hb.val0
 exact trim_dig h.dg (by rw[hv]; omega)
end
structure ShS (a o:List Int) (n:Int) (i:Nat) (r:Int):Prop where
 len:o.length=a.length
 dg:Dg o
 r0:0≤r∧r<n
 z:∀j,j<i→j<o.length→nth o j=0
 v:val (a.drop i)=n*val (o.drop i)+r
section
variable {a o:List Int} {n r:Int} {i:Nat}
theorem ShS.start (hn:0<n):ShS a (List.replicate a.length 0) n a.length 0 :=
 ⟨by simp,dg_rep,by omega,fun j h _=>nth_rep h,by rw[List.drop_length,List.drop_of_length_le (by simp)]; simp[val]⟩
theorem ShS.q (ha:Dg a) (h:ShS a o n (i+1) r) (hi:i<a.length):0≤(r*100000000+nth a i)/n∧(r*100000000+nth a i)/n<100000000∧0≤(r*100000000+nth a i)%n∧(r*100000000+nth a i)%n<n:=by
 have h1:=ha.at hi
 have h2:=h.r0
 refine ⟨Int.ediv_nonneg zo zo,Int.ediv_lt_of_lt_mul zo ?_,Int.emod_nonneg _ zo,Int.emod_lt_of_pos _ zo⟩
 have:(r+1)*100000000≤n*100000000:=Int.mul_le_mul_of_nonneg_right zo zo
 rw[Int.mul_comm 100000000 n]; omega
theorem ShS.next (ha:Dg a) (h:ShS a o n (i+1) r) (hi:i<a.length):ShS a (o.set i ((r*100000000+nth a i)/n)) n i ((r*100000000+nth a i)%n):=by
 obtain ⟨q1,q2,q3,q4⟩:=h.q ha hi
 have hl:=h.len
 refine ⟨by rw[List.length_set]; exact hl,h.dg.set q1 q2,⟨q3,q4⟩,fun j h1 h2=>?_,?_⟩
 ·rw[List.length_set] at h2
  rw[nth_set h2,if_neg zo]; exact h.z j zo h2
 ·have e:=Int.emod_add_mul_ediv (r*100000000+nth a i) n
  rw[val_drop hi,h.v,val_drop (xs:=o.set i _) (by rw[List.length_set]; omega),nth_set zo,if_pos rfl,List.drop_set_of_lt zo,Int.mul_add,Int.mul_add,Int.mul_left_comm n 100000000]
  omega
theorem ShS.fin (h:ShS a o n 0 r):trimL o=digN (val a/n).toNat∧r=val a%n:=by
 have hv:=h.v
 rw[List.drop_zero,List.drop_zero] at hv
 have hr:=h.r0
 have e1:val a/n=val o:=by rw[hv,Int.mul_add_ediv_left _ _ zo,Int.ediv_eq_zero_of_lt hr.1 hr.2]; omega
 have e2:val a%n=r:=by rw[hv,Int.mul_add_emod_self_left,Int.emod_eq_of_lt hr.1 hr.2]
 have h0:=h.dg.val0
 exact ⟨trim_dig h.dg (by rw[e1]; omega),e2.symm⟩
end
end Go.Fl

/- Long division of digits. Plain Lean, no program in sight. -/
namespace Go.Fl
theorem hi_zero {xs:List Int} (h:Dg xs) {n:Nat} (hv:val xs<BP n) {k:Nat} (hk:n≤k) (hl:k<xs.length):nth xs k=0:=by
 have h1:=h.at hl
 have h2:=val_split (xs:=xs) (i:=k) zo
 have h3:=(h.take k).val0
 have hd:Dg (xs.drop (k+1)):=fun x hx=>h x (List.mem_of_mem_drop hx)
 have h4:=hd.val0
 rw[val_drop hl] at h2
 have h5:=BP_mono hk
 refine Classical.byContradiction fun hne=>?_
 have h6:BP k*1≤BP k*(nth xs k+100000000*val (xs.drop (k+1))):=Int.mul_le_mul_of_nonneg_left zo (Int.le_of_lt (BP_pos k))
 omega
structure LgS (u0 v:List Int) (j:Nat) (s:Int) (u:List Int) (i:Nat) (c:Int):Prop where
 len:u.length=u0.length
 same:∀k,k<j∨j+i≤k→nth u k=nth u0 k
 dg:∀k,j≤k→k<j+i→0≤nth u k∧nth u k<100000000
 v:val u+BP (j+i)*c=val u0+s*BP j*val (v.take i)
 cb:-100000000≤c∧c≤1
section
variable {u0 v u:List Int} {j i:Nat} {s c:Int}
theorem LgS.start:LgS u0 v j s u0 0 0:=⟨rfl,fun _ _=>rfl,fun _ _ _=>by omega,by simp[val],by omega⟩
theorem LgS.b (hv:Dg v) (hs:-99999999≤s∧s≤1) (hi:i<v.length):-9999999800000001≤s*nth v i∧s*nth v i≤99999999:=by
 have h1:=hv.at hi
 constructor
 ·have h2:(-s)*nth v i≤99999999*99999999:=by
   by_cases hp:0≤-s
   ·exact Int.mul_le_mul zo zo h1.1 zo
   ·have:(-s)*nth v i≤0*nth v i:=Int.mul_le_mul_of_nonneg_right zo h1.1
    omega
  rw[Int.neg_mul] at h2; omega
 ·have h2:s*nth v i≤1*nth v i:=Int.mul_le_mul_of_nonneg_right hs.2 h1.1
  omega
theorem LgS.next (hv:Dg v) (hs:-99999999≤s∧s≤1) (h:LgS u0 v j s u i c) (hi:i<v.length) (hl:j+i<u0.length) (hu:0≤nth u0 (j+i)∧nth u0 (j+i)<100000000) :
  nth u (j+i)=nth u0 (j+i)∧LgS u0 v j s (u.set (j+i) ((nth u0 (j+i)+s*nth v i+c)%100000000)) (i+1) ((nth u0 (j+i)+s*nth v i+c)/100000000):=by
 have hb:=LgS.b hv hs hi
 have hc:=h.cb
 have he:=h.same (j+i) (.inr (Nat.le_refl _))
 have hul:=h.len
 refine ⟨he,by rw[List.length_set]; exact hul,fun k hk=>?_,fun k h1 h2=>?_,?_,?_⟩
 ·by_cases hkl:k<u.length
  ·rw[nth_set hkl,if_neg zo]; exact h.same k zo
  ·have e1:∀y:Int,nth (u.set (j+i) y) k=nth u k:=fun y=>by
    unfold nth
    simp only[List.getD_eq_getElem?_getD]
    rw[List.getElem?_eq_none (show (u.set (j+i) y).length≤k by rw[List.length_set]; omega),List.getElem?_eq_none (show u.length≤k by omega)]
   rw[e1]; exact h.same k zo
 ·have hkl:k<u.length:=by omega
  rw[nth_set hkl]
  by_cases e:j+i=k
  ·rw[if_pos e]; exact ⟨Int.emod_nonneg _ zo,Int.emod_lt_of_pos _ zo⟩
  ·rw[if_neg e]; exact h.dg k h1 zo
 ·have e:=mul_div_BP (n:=j+i) (nth u0 (j+i)+s*nth v i+c)
  rw[Int.mul_add,Int.mul_add] at e
  have hv':=h.v
  have e2:s*BP j*val (v.take (i+1))=s*BP j*val (v.take i)+BP (j+i)*(s*nth v i):=by
   rw[take_val,xAt_in hi,Int.mul_add,BP_add]
   congr 1
   rw[Int.mul_comm s (BP j),Int.mul_assoc,Int.mul_assoc,Int.mul_left_comm s]
  rw[val_set zo,he,e2,Int.mul_sub,← Nat.add_assoc]
  omega
 ·constructor
  ·omega
  ·omega
theorem LgS.done (h:LgS u0 v j s u v.length c) (hl:j+v.length<u0.length):nth u (j+v.length)=nth u0 (j+v.length)∧val (u.set (j+v.length) (nth u (j+v.length)+c))=val u0+s*BP j*val v:=by
 have hv:=h.v
 rw[List.take_length] at hv
 refine ⟨h.same _ (.inr (Nat.le_refl _)),?_⟩
 rw[val_set (by rw[h.len]; exact hl),← hv]
 congr 1
 rw[Int.add_comm (nth u _),Int.add_sub_cancel]
end
structure LgW (u0:List Int) (j n:Nat) (T V:Int) (u:List Int) (g:Int):Prop where
 len:u.length=u0.length
 dg:∀k,k<u.length→k≠j+n→0≤nth u k∧nth u k<100000000
 hi:∀k,j+n<k→k<u.length→nth u k=0
 low:u.take j=u0.take j
 v:val u=val u0-g*BP j*V
 g0:T/V≤g
 g1:g≤99999999
section
variable {u0 u:List Int} {j n:Nat} {T V g:Int}
theorem LgW.t (h:LgW u0 j n T V u g) (hl:j+n<u0.length) (hT:T=val (u0.drop j)):val (u.drop j)=T-g*V:=by
 have h1:=val_split (xs:=u) (i:=j) (by rw[h.len]; omega)
 have h2:=val_split (xs:=u0) (i:=j) zo
 have h3:=h.v
 rw[h1,h2,h.low,← hT] at h3
 have h4:BP j*val (u.drop j)=BP j*(T-g*V):=by
  rw[Int.mul_sub,show BP j*(g*V)=g*BP j*V by rw[Int.mul_comm g (BP j),Int.mul_assoc]]; omega
 exact Int.eq_of_mul_eq_mul_left (by have:=BP_pos j; omega) h4
theorem LgW.top (h:LgW u0 j n T V u g) (hl:j+n<u0.length):∃lo,0≤lo∧lo<BP n∧val (u.drop j)=lo+BP n*nth u (j+n):=by
 have hlen:=h.len
 have h1:=val_split (xs:=u.drop j) (i:=n) (by rw[List.length_drop]; omega)
 have hd:Dg ((u.drop j).take n):=fun x hx=>by
  obtain ⟨i,hi,rfl⟩:=mem_nth hx
  rw[List.length_take,List.length_drop] at hi
  have e:nth ((u.drop j).take n) i=nth u (j+i):=by
   unfold nth
   simp only[List.getD_eq_getElem?_getD,List.getElem?_take,List.getElem?_drop]
   rw[if_pos zo]
  rw[e]; exact h.dg _ zo zo
 have hz:val ((u.drop j).drop n)=nth u (j+n):=by
  rw[List.drop_drop,val_drop zo]
  have:val (u.drop (j+n+1))=0:=by
   have hr:u.drop (j+n+1)=List.replicate (u.drop (j+n+1)).length 0:=List.eq_replicate_of_mem fun x hx=>by
    obtain ⟨i,hi,rfl⟩:=mem_nth hx
    rw[List.length_drop] at hi
    have e:nth (u.drop (j+n+1)) i=nth u (j+n+1+i):=by
     unfold nth
     simp only[List.getD_eq_getElem?_getD,List.getElem?_drop]
    rw[e]; exact h.hi _ zo zo
   rw[hr,val_rep]
  rw[this]; omega
 have h2:=hd.val1
 rw[List.length_take,List.length_drop,Nat.min_eq_left zo] at h2
 exact ⟨_,hd.val0,h2,by rw[h1,hz]⟩
theorem LgW.lt (h:LgW u0 j n T V u g) (hl:j+n<u0.length) (hT:T=val (u0.drop j)) (hn:nth u (j+n)<0) (hV:0<V):T/V<g:=by
 obtain ⟨lo,h1,h2,h3⟩:=h.top hl
 rw[h.t hl hT] at h3
 have h4:BP n*nth u (j+n)≤BP n*(-1):=Int.mul_le_mul_of_nonneg_left zo (Int.le_of_lt (BP_pos n))
 have h5:T<g*V:=by omega
 exact Int.ediv_lt_of_lt_mul hV h5
theorem LgW.ge (h:LgW u0 j n T V u g) (hl:j+n<u0.length) (hT:T=val (u0.drop j)) (hn:0≤nth u (j+n)) (hV:0<V) (hVn:V<BP n):g=T/V∧Dg u∧val (u.drop j)<V:=by
 obtain ⟨lo,h1,h2,h3⟩:=h.top hl
 have h4:0≤BP n*nth u (j+n):=Int.mul_nonneg (Int.le_of_lt (BP_pos n)) hn
 have ht:=h.t hl hT
 have h5:g*V≤T:=by omega
 have hg:g=T/V:=Int.le_antisymm ((Int.le_ediv_iff_mul_le hV).2 h5) h.g0
 have h6:val (u.drop j)<V:=by
  rw[ht,hg]
  have:=Int.emod_lt_of_pos T hV
  have e:=Int.emod_add_mul_ediv T V
  rw[Int.mul_comm] at e
  omega
 refine ⟨hg,fun x hx=>?_,h6⟩
 obtain ⟨k,hk,rfl⟩:=mem_nth hx
 by_cases e:k=j+n
 ·subst e
  refine ⟨hn,?_⟩
  have:nth u (j+n)=0:=by
   refine Classical.byContradiction fun hne=>?_
   have:BP n*1≤BP n*nth u (j+n):=Int.mul_le_mul_of_nonneg_left zo (Int.le_of_lt (BP_pos n))
   omega
  omega
 ·exact h.dg k hk e
end
theorem guess_ge {T V t vt:Int} {n:Nat} (hV:vt*BP n≤V) (hvt:0<vt) (hT:T<(t+1)*BP n) (hT2:T<100000000*V) (h0:0≤T):T/V≤(if 99999999<t/vt then 99999999 else t/vt)∧0≤T/V:=by
 have hp:=BP_pos n
 have hVp:0<V:=by
  have:0<vt*BP n:=Int.mul_pos hvt hp
  omega
 have h1:T/V<100000000:=Int.ediv_lt_of_lt_mul hVp hT2
 have hq0:0≤T/V:=Int.ediv_nonneg h0 zo
 have h2:T/V*V≤T:=Int.ediv_mul_le T zo
 have h3:T/V*(vt*BP n)≤T/V*V:=Int.mul_le_mul_of_nonneg_left hV hq0
 have h4:T/V*vt*BP n<(t+1)*BP n:=by rw[Int.mul_assoc]; omega
 have h5:T/V*vt<t+1:=Int.lt_of_mul_lt_mul_right h4 (Int.le_of_lt hp)
 have h6:T/V≤t/vt:=(Int.le_ediv_iff_mul_le hvt).2 zo
 refine ⟨?_,hq0⟩
 split<;>omega
structure LgR (A V:Int) (n:Nat) (u out:List Int) (j:Nat):Prop where
 lu:u.length=out.length+n
 dg:Dg u
 do_:Dg out
 jo:j≤out.length
 lt:val (u.drop j)<V
 v:A=V*BP j*val (out.drop j)+val u
section
variable {A V T g:Int} {n j:Nat} {u out u' v:List Int}
theorem LgR.gs (hv:Nm v) (hn:v.length=n) (h2:2≤n) (h:LgR A (val v) n u out (j+1)) :
  val (u.drop j)/val v≤(if 99999999<(nth u (j+n)*100000000+nth u (j+n-1))/nth v (n-1) then 99999999 else (nth u (j+n)*100000000+nth u (j+n-1))/nth v (n-1))∧0≤val (u.drop j)/val v∧0<nth v (n-1)∧(∀k,j+n<k→k<u.length→nth u k=0)∧val v<BP n:=by
 have hlu:=h.lu
 have hjo:=h.jo
 have hne:v≠[]:=fun e=>by rw[e] at hn; simp at hn; omega
 have hvlt:=hv.dg.val1
 rw[hn] at hvlt
 have hd1:Dg (u.drop (j+1)):=fun x hx=>h.dg x (List.mem_of_mem_drop hx)
 have hd0:Dg (u.drop j):=fun x hx=>h.dg x (List.mem_of_mem_drop hx)
 have hz:∀k,j+n<k→k<u.length→nth u k=0:=fun k h3 h4=>by
  have:=hi_zero hd1 (n:=n) (by have:=h.lt; omega) (k:=k-(j+1)) zo (by rw[List.length_drop]; omega)
  unfold nth at this ⊢
  simp only[List.getD_eq_getElem?_getD,List.getElem?_drop] at this ⊢
  rwa [show j+1+(k-(j+1))=k by omega] at this
 have hvt:0<nth v (n-1):=by
  have h3:=hv.last hne
  have h4:nth v (n-1)=v.getLast hne:=by
   rw[List.getLast_eq_getElem]
   exact nth_of_get? (by rw[← hn]; exact List.getElem?_eq_getElem _)
  rw[h4]
  have:=hv.dg _ (List.getLast_mem hne)
  omega
 have hV:nth v (n-1)*BP (n-1)≤val v:=by
  have h3:=val_split (xs:=v) (i:=n-1) zo
  have h4:=(hv.dg.take (n-1)).val0
  have h5:v.drop (n-1)=[nth v (n-1)]:=by
   rw[List.drop_eq_getElem_cons zo,List.drop_of_length_le zo]
   congr 1
   exact (nth_of_get? (List.getElem?_eq_getElem zo)).symm
  rw[h5] at h3
  simp only[val,Int.mul_zero,Int.add_zero] at h3
  rw[Int.mul_comm]; omega
 have hT0:=hd0.val0
 have hT1:val (u.drop j)<100000000*val v:=by
  rw[val_drop zo]
  have:=h.dg.at (i:=j) zo
  have:=h.lt
  omega
 have hT2:val (u.drop j)<(nth u (j+n)*100000000+nth u (j+n-1)+1)*BP (n-1):=by
  have h3:=val_split (xs:=u.drop j) (i:=n-1) (by rw[List.length_drop]; omega)
  have hdt:Dg ((u.drop j).take (n-1)):=hd0.take _
  have h4:=hdt.val1
  rw[List.length_take,List.length_drop,Nat.min_eq_left zo] at h4
  have h6:=val_drop (xs:=u) (i:=j+(n-1)) zo
  have h7:=val_drop (xs:=u) (i:=j+n) zo
  rw[show j+(n-1)+1=j+n by omega] at h6
  rw[List.drop_drop,h6,h7] at h3
  have h5:val (u.drop (j+n+1))=0:=by
   have hr:u.drop (j+n+1)=List.replicate (u.drop (j+n+1)).length 0:=List.eq_replicate_of_mem fun x hx=>by
    obtain ⟨i,hi,rfl⟩:=mem_nth hx
    rw[List.length_drop] at hi
    have e:nth (u.drop (j+n+1)) i=nth u (j+n+1+i):=by
     unfold nth
     simp only[List.getD_eq_getElem?_getD,List.getElem?_drop]
    rw[e]; exact hz _ zo zo
   rw[hr,val_rep]
  rw[h5,Int.mul_zero,Int.add_zero] at h3
  rw[h3,show j+(n-1)=j+n-1 by omega,Int.add_mul,Int.one_mul,Int.mul_comm (nth u (j+n)*100000000+nth u (j+n-1)),Int.mul_comm 100000000 (nth u (j+n)),Int.add_comm (nth u (j+n)*100000000)]
  omega
 obtain ⟨g1,g2⟩:=guess_ge hV hvt hT2 hT1 hT0
 exact ⟨g1,g2,hvt,hz,hvlt⟩
theorem LgW.mk' (h:LgR A V n u out (j+1)) (_hn:j+n<u.length) {s:Int} (hs:LgS u v j (-s) u' n T) (hvn:v.length=n) (hV:val v=V) (hz:∀k,j+n<k→k<u.length→nth u k=0) (hg:val (u.drop j)/V≤s) (hg1:s≤99999999) :
  LgW u j n (val (u.drop j)) V (u'.set (j+n) (nth u' (j+n)+T)) s:=by
 have hl:=hs.len
 subst hvn
 obtain ⟨e1,e2⟩:=hs.done zo
 refine ⟨by rw[List.length_set]; exact hl,fun k hk hne=>?_,fun k h1 h2=>?_,?_,?_,hg,hg1⟩
 ·rw[List.length_set] at hk
  rw[nth_set hk,if_neg (fun e=>hne e.symm)]
  by_cases hc:k<j∨j+v.length≤k
  ·rw[hs.same k hc]; exact h.dg.at zo
  ·exact hs.dg k zo zo
 ·rw[List.length_set] at h2
  rw[nth_set h2,if_neg zo,hs.same k zo]
  exact hz k h1 zo
 ·refine ext_nth (by simp[hl]) fun k hk=>?_
  rw[List.length_take,List.length_set] at hk
  have e:∀{xs:List Int},nth (xs.take j) k=nth xs k:=fun {xs}=>by
   unfold nth
   simp only[List.getD_eq_getElem?_getD,List.getElem?_take]
   rw[if_pos zo]
  rw[e,e,nth_set zo,if_neg zo]
  exact hs.same k (.inl zo)
 ·rw[e2,hV,Int.neg_mul,Int.neg_mul]; omega
theorem LgW.back (h:LgW u j n T V u' g) (hl:j+n<u.length) (hT:T=val (u.drop j)) (hn:nth u' (j+n)<0) (hVp:0<V) {u2:List Int} {c:Int} (hs:LgS u' v j 1 u2 n c) (hvn:v.length=n) (hV:val v=V) :
  LgW u j n T V (u2.set (j+n) (nth u2 (j+n)+c)) (g-1):=by
 have hlt:=h.lt hl hT hn hVp
 have hlen:=h.len
 have hl2:=hs.len
 subst hvn
 obtain ⟨e1,e2⟩:=hs.done zo
 refine ⟨by rw[List.length_set]; omega,fun k hk hne=>?_,fun k h1 h2=>?_,?_,?_,by omega,by have:=h.g1; omega⟩
 ·rw[List.length_set] at hk
  rw[nth_set hk,if_neg (fun e=>hne e.symm)]
  by_cases hc:k<j∨j+v.length≤k
  ·rw[hs.same k hc]; exact h.dg k zo hne
  ·exact hs.dg k zo zo
 ·rw[List.length_set] at h2
  rw[nth_set h2,if_neg zo,hs.same k zo]
  exact h.hi k h1 zo
 ·rw[← h.low]
  refine ext_nth (by simp[hl2]) fun k hk=>?_
  rw[List.length_take,List.length_set] at hk
  have e:∀{xs:List Int},nth (xs.take j) k=nth xs k:=fun {xs}=>by
   unfold nth
   simp only[List.getD_eq_getElem?_getD,List.getElem?_take]
   rw[if_pos zo]
  rw[e,e,nth_set zo,if_neg zo]
  exact hs.same k (.inl zo)
 ·rw[e2,h.v,hV,Int.one_mul,Int.sub_mul,Int.sub_mul,Int.one_mul]; omega
theorem LgR.next (h:LgR A V n u out (j+1)) (hw:LgW u j n (val (u.drop j)) V u' g) (hl:j+n<u.length) (hn:0≤nth u' (j+n)) (hV:0<V) (hVn:V<BP n):LgR A V n u' (out.set j g) j:=by
 obtain ⟨e1,e2,e3⟩:=hw.ge hl rfl hn hV hVn
 have hjo:=h.jo
 have h0:Dg (u.drop j):=fun x hx=>h.dg x (List.mem_of_mem_drop hx)
 have hg0:0≤g:=by rw[e1]; exact Int.ediv_nonneg h0.val0 zo
 have:=hw.g1
 refine ⟨by rw[hw.len,h.lu,List.length_set],e2,h.do_.set hg0 zo,by rw[List.length_set]; omega,e3,?_⟩
 rw[val_drop (xs:=out.set j g) (by rw[List.length_set]; omega),nth_set zo,if_pos rfl,List.drop_set_of_lt zo,hw.v,h.v,BP_succ,Int.mul_add,show V*BP j*g=g*BP j*V by rw[Int.mul_comm V,Int.mul_comm (BP j*V),Int.mul_assoc],show V*(100000000*BP j)=V*BP j*100000000 by rw[Int.mul_comm 100000000 (BP j),Int.mul_assoc],Int.mul_assoc (V*BP j)]
 omega
theorem LgR.fin (h:LgR A V n u out 0) (hV:0<V):val out=A/V∧val u=A%V∧Dg out∧Dg u:=by
 have hv:=h.v
 have hlt:=h.lt
 rw[List.drop_zero] at hv hlt
 simp only[BP,Int.pow_zero,Int.mul_one] at hv
 have h0:=h.dg.val0
 refine ⟨?_,?_,h.do_,h.dg⟩
 ·rw[hv,Int.mul_add_ediv_left _ _ zo,Int.ediv_eq_zero_of_lt h0 hlt]; omega
 ·rw[hv,Int.mul_add_emod_self_left,Int.emod_eq_of_lt h0 hlt]
theorem LgR.start {x:Int} (hx:0≤x) (hv:Nm v) (hn:v.length=n) (h2:2≤n) (hle:n≤(digN x.toNat).length):LgR x (val v) n (digN x.toNat++[0,0]) (List.replicate ((digN x.toNat).length+2-n) 0) ((digN x.toNat).length+2-n):=by
 have hd:=digN_dg x.toNat
 have hD:Dg (digN x.toNat++[0,0]):=fun y hy=>by
  rcases List.mem_append.1 hy with hy | hy
  ·exact hd y hy
  ·simp at hy; subst hy; omega
 have hval:val (digN x.toNat++[0,0])=x:=by rw[val_append,digN_val]; simp[val]; omega
 have hne:v≠[]:=fun e=>by rw[e] at hn; simp at hn; omega
 refine ⟨by simp; omega,hD,dg_rep,by simp,?_,?_⟩
 ·have h1:=hv.low hne
  rw[hn] at h1
  have e:(digN x.toNat++[0,0]).drop ((digN x.toNat).length+2-n)=(digN x.toNat).drop ((digN x.toNat).length+2-n)++[0,0]:=List.drop_append_of_le_length zo
  rw[e,val_append]
  have hdd:Dg ((digN x.toNat).drop ((digN x.toNat).length+2-n)):=fun y hy=>hd y (List.mem_of_mem_drop hy)
  have h3:=hdd.val1
  rw[List.length_drop] at h3
  have h4:=BP_mono (show (digN x.toNat).length-((digN x.toNat).length+2-n)≤n-1 by omega)
  simp only[val]
  omega
 ·rw[List.drop_of_length_le (by simp),hval]
  simp[val]
end
end Go.Fl

/- Integers: what the contracts of the package field lean on. Plain Lean, no program in sight. -/
namespace Go.Fl
theorem nth_take {α:Type} [Inhabited α] {xs:List α} {i m:Nat} (h:i<m):nth (xs.take m) i=nth xs i:=by simp[nth,List.getD,List.getElem?_take_of_lt h]
def wh (z:Int):Bool×List Int:=(decide (z<0),digN z.natAbs)
theorem wh_mk {b:Bool} {ds:List Int} {z:Int} (hb:b=decide (z<0)) (hd:ds=digN z.natAbs):(b,ds)=wh z:=by unfold wh; rw[hb,hd]
theorem wh_pos {ds:List Int} {z:Int} {n:Nat} (hz:z=n) (hd:ds=digN n):(false,ds)=wh z:=by subst hz; exact wh_mk (by simp) (by simpa using hd)
theorem wh_neg {ds:List Int} {z:Int} {n:Nat} (hz:z=-(n:Int)) (h0:0<n) (hd:ds=digN n):(true,ds)=wh z:=wh_mk (by simp; omega) (by rw[hd,hz,Int.natAbs_neg,Int.natAbs_natCast])
theorem td8 (n:Int):n=100000000*n.tdiv 100000000+n.tmod 100000000∧(0≤n→0≤n.tmod 100000000∧n.tmod 100000000<100000000)∧(n≤0→-100000000<n.tmod 100000000∧n.tmod 100000000≤0):=by
 have h:=Int.mul_tdiv_add_tmod n 100000000
 refine ⟨by omega,fun h0=>⟨Int.tmod_nonneg _ h0,?_⟩,fun h0=>?_⟩
 ·exact Int.tmod_lt_of_pos n zo
 ·have h1:=Int.tmod_nonneg 100000000 (show 0≤-n by omega)
  have h2:=Int.tmod_lt_of_pos (-n) (show (0:Int)<100000000 by omega)
  rw[Int.neg_tmod] at h1 h2
  omega
theorem rd_pos {xs:List Int} {i:Nat} (hi:xs.length≤i) (h:(rdS xs i).2=0):(false,trimL (rdS xs i).1)=wh (val xs):=by
 have h1:=rdS_pos hi h
 have h0:=(rdS_dg (xs:=xs) (i:=i)).val0
 exact wh_pos (n:=(val xs).toNat) zo (trim_dig rdS_dg zo)
theorem bw_cm {ds:List Int} {k:Nat}:bw ds (k+1)=if -(nth ds k)-bw ds k<0 then 1 else 0:=rfl
theorem cm_v {ds:List Int} {k:Nat} (hk:k<ds.length):nth ((cmL ds k).set k (-nth (cmL ds k) k-bw ds k)) k=-nth ds k-bw ds k:=by
 rw[nth_set (by rw[cmL_len]; exact hk),if_pos rfl,cmL_at hk]
theorem cm_t {ds:List Int} {k:Nat} (hk:k<ds.length) (h:nth ((cmL ds k).set k (-nth (cmL ds k) k-bw ds k)) k<0) :
  ((cmL ds k).set k (-nth (cmL ds k) k-bw ds k)).set k (nth ((cmL ds k).set k (-nth (cmL ds k) k-bw ds k)) k+100000000)=cmL ds (k+1)∧(1:Int)=bw ds (k+1):=by
 rw[cm_v hk] at h ⊢
 refine ⟨?_,by rw[bw_cm,if_pos h]⟩
 rw[List.set_set,← cmL_succ]
 congr 1
 unfold cmD; rw[if_pos h]
theorem cm_f {ds:List Int} {k:Nat} (hk:k<ds.length) (h:0≤nth ((cmL ds k).set k (-nth (cmL ds k) k-bw ds k)) k):(cmL ds k).set k (-nth (cmL ds k) k-bw ds k)=cmL ds (k+1)∧(0:Int)=bw ds (k+1):=by
 rw[cm_v hk] at h
 refine ⟨?_,by rw[bw_cm,if_neg zo]⟩
 rw[← cmL_succ,cmL_at hk]
 congr 1
 unfold cmD; rw[if_neg zo]
theorem rd_neg1 {xs:List Int} {i:Nat} (hi:xs.length≤i) (h:(rdS xs i).2=-1) (hb:bw (rdS xs i).1 i≠0):(true,trimL (cmL (rdS xs i).1 i))=wh (val xs):=by
 have h1:=rdS_neg hi h
 have hl:(rdS xs i).1.length=i:=rdS_len
 have hd:=rdS_dg (xs:=xs) (i:=i)
 have hlt:=hd.val1
 have h2:=cm_pos hd (by rw[hl]; exact hb)
 rw[hl] at h2 hlt
 exact wh_neg (n:=(-val xs).toNat) zo zo (trim_dig h2.1 zo)
theorem rd_neg0 {xs:List Int} {i:Nat} (hi:xs.length≤i) (h:(rdS xs i).2=-1) (hb:bw (rdS xs i).1 i=0):(true,trimL (cmL (rdS xs i).1 i++[1]))=wh (val xs):=by
 have h1:=rdS_neg hi h
 have hl:(rdS xs i).1.length=i:=rdS_len
 have hd:=rdS_dg (xs:=xs) (i:=i)
 have hlt:=hd.val1
 have h2:=cm_zero hd (by rw[hl]; exact hb)
 rw[hl] at h2 hlt
 exact wh_neg (n:=(-val xs).toNat) zo zo (trim_dig h2.1 zo)
def ngT (ds:List Int) (k:Nat):List Int:=tab ds.length fun j=>if j<k then -(nth ds j) else nth ds j
theorem ngT_zero {ds:List Int}:ds=ngT ds 0:=by
 unfold ngT
 exact (tab_nth rfl).trans (tab_congr fun j _=>by rw[if_neg zo])
theorem ngT_at {ds:List Int} {k:Nat} (h:k<ds.length):nth (ngT ds k) k=nth ds k:=by unfold ngT; rw[nth_tab h,if_neg zo]
theorem ngT_succ {ds:List Int} {k:Nat} (h:k<ds.length):(ngT ds k).set k (-(nth (ngT ds k) k))=ngT ds (k+1):=by
 rw[ngT_at h]
 unfold ngT
 rw[tab_set]
 refine tab_congr fun j _=>?_
 by_cases e:j=k
 ·subst e; rw[if_pos rfl,if_pos zo]
 ·rw[if_neg e]
  by_cases h:j<k
  ·rw[if_pos h,if_pos zo]
  ·rw[if_neg h,if_neg zo]
theorem ngT_all {ds:List Int}:ngT ds ds.length=ds.map fun x=>-x:=by
 refine ext_nth (by unfold ngT; rw[tab_len,List.length_map]) fun j hj=>?_
 unfold ngT at hj ⊢
 rw[tab_len] at hj
 rw[nth_tab hj,if_pos hj,nth_map hj]
theorem lst_pos {z:Int} (h:decide (z<0)=false):digN z.natAbs=lstZ z:=by unfold lstZ; rw[if_neg (of_decide_eq_false h)]
theorem lst_neg {z:Int} (h:decide (z<0)=true):ngT (digN z.natAbs) (digN z.natAbs).length=lstZ z:=by rw[ngT_all]; unfold lstZ; rw[if_pos (of_decide_eq_true h)]
theorem dn_len {z:Int}:(digN z.natAbs).length=dl z:=rfl
theorem dl_pos {z:Int}:0<dl z↔z≠0:=by have:=dl_zero (a:=z); omega
theorem wh_minus {z:Int}:(!decide (z<0)&&decide ((0:Int)<((digN z.natAbs).length:Nat)),digN z.natAbs)=wh (-z):=by
 refine wh_mk ?_ (by rw[Int.natAbs_neg])
 have:=dl_pos (z:=z)
 rw[dn_len]
 by_cases h:z<0
 ·simp[h]; omega
 ·by_cases e:z=0
  ·subst e; simp[dl_zero.2 rfl]
  ·have h2:(0:Int)<(dl z:Nat):=by omega
   simp[h]; omega
theorem val_one {n:Int}:val [n]=n:=by simp[val]
theorem cmpZ_lt {x y:Int} (h:x<y):cmpZ x y=-1:=if_pos h
theorem cmpZ_gt {x y:Int} (h:y<x):cmpZ x y=1:=by unfold cmpZ; rw[if_neg zo,if_pos h]
theorem cmpZ_eq {x y:Int} (h:x=y):cmpZ x y=0:=by unfold cmpZ; rw[if_neg zo,if_neg zo]
theorem cmpZ_sub {x y:Int}:cmpZ (x-y) 0=cmpZ x y:=by
 unfold cmpZ
 by_cases h:x<y
 ·rw[if_pos h,if_pos zo]
 ·rw[if_neg h,if_neg zo]
  by_cases h2:y<x
  ·rw[if_pos h2,if_pos zo]
  ·rw[if_neg h2,if_neg zo]
theorem cmpZ_dl {m n:Nat} (h:(digN m).length≠(digN n).length):cmpZ ((digN m).length:Nat) ((digN n).length:Nat)=cmpZ m n:=by
 have h1:=digN_val m; have h2:=digN_val n
 rcases Nat.lt_or_ge (digN m).length (digN n).length with h3 | h3
 ·have:=cmp_len (digN_nm m) (digN_nm n) h3
  rw[cmpZ_lt zo,cmpZ_lt zo]
 ·have:=cmp_len (digN_nm n) (digN_nm m) zo
  rw[cmpZ_gt zo,cmpZ_gt zo]
theorem cmpZ_at {m n:Nat} (hl:(digN m).length=(digN n).length) {i:Nat} (hi:i<(digN m).length) (h:∀j,i<j→j<(digN m).length→nth (digN m) j=nth (digN n) j) (hne:nth (digN m) i≠nth (digN n) i):cmpZ (nth (digN m) i) (nth (digN n) i)=cmpZ m n:=by
 have h1:=digN_val m; have h2:=digN_val n
 rcases Int.lt_or_gt_of_ne hne with h3 | h3
 ·have:=cmp_at (digN_dg m) (digN_dg n) hl hi h h3
  rw[cmpZ_lt h3,cmpZ_lt zo]
 ·have:=cmp_at (digN_dg n) (digN_dg m) hl.symm zo (fun j h4 h5=>(h j h4 zo).symm) h3
  rw[cmpZ_gt h3,cmpZ_gt zo]
theorem cmpZ_all {m n:Nat} (hl:(digN m).length=(digN n).length) (h:∀j,0≤j→j<(digN m).length→nth (digN m) j=nth (digN n) j):(0:Int)=cmpZ m n:=by
 have e:=cmp_eq hl (fun j hj=>h j (Nat.zero_le _) hj)
 have h1:=digN_val m; have h2:=digN_val n
 rw[e,h2] at h1
 rw[cmpZ_eq h1.symm]
end Go.Fl

/- Contracts: the library, for integers. -/
namespace Go.Fl
open Go Go.Proofs
open TrL renaming op→tO
open RunD renaming op→rO
set_option maxRecDepth 100000

theorem ct_isNaN (x:Int):Ct Tryz.prog 224 [kI x] (kB false):=by
 refine Ct.mk Tryz.func224 rfl Tryz.ntmps224 rfl (fun w J=>?_); refine jx14 ?_; exact Rts.res1 (fn:=Tryz.f224) rfl (.b rfl (by simp)<|.nil)

theorem ct_cmpZc (x y:Int):Ct Tryz.prog 214 [kI x,kI y] (kI (cmpZ x y)):=by
 refine Ct.mk Tryz.func214 rfl Tryz.ntmps214 rfl (fun w J=>?_); refine jx8 ?_; refine tO (ok_call (fun hp=>ct_isNaN _) (.a rfl uu<|.nil)) rfl rfl ?_; refine jx6 ?_; refine tO (ok_call (fun hp=>ct_isNaN _) (.a rfl uu<|.nil)) rfl rfl ?_; refine jx9 ?_; refine Tr.cnd rfl ?_ ?_
 ·intro h3
  simp at h3
 ·intro h3
  refine jx8 ?_; refine Tr.cnd rfl ?_ ?_
  ·intro h7
   simp at h7
  ·intro h7
   refine jx10 ?_; refine jq ?_ ?_
   ·intro h9
    refine jx7 ?_; exact Rts.res1 (fn:=Tryz.f214) rfl (.i rfl (cmpZ_lt h9).symm<|.nil)
   ·intro h9
    replace h9:=Int.not_lt.1 h9
    refine jx10 ?_; refine jq ?_ ?_
    ·intro h11
     refine jx7 ?_; exact Rts.res1 (fn:=Tryz.f214) rfl (.i rfl (cmpZ_gt zo).symm<|.nil)
    ·intro h11
     replace h11:=Int.not_lt.1 h11
     refine jx8 ?_; exact Rts.res1 (fn:=Tryz.f214) rfl (.i rfl (cmpZ_eq zo).symm<|.nil)

theorem ct_cloneN (p:List Int) (hn:p.length≤1000000) (h0:0<p.length):CtN Tryz.prog 143 [kRd (eL eI) p] (fun t=>kOsl t p.length) (cArr false 3 eI p p.length):=by
 refine CtN.mk Tryz.func143 rfl Tryz.ntmps143 rfl (fun w J=>?_); refine jx9 ?_; refine tO (ok_eqlNilJ rfl uu) rfl rfl ?_; refine jx2 ?_; refine Tr.exB (s:=4) rfl (fun b1 q1=>?_); refine Tr.cnd rfl ?_ ?_
 ·intro h1
  exact absurd (congrArg List.length (q1 h1)) (by simp only[List.length_nil]; omega)
 ·intro h1
  refine jx4 ?_; refine TrL.new (ok_bsl0 eI 5) rfl rfl rfl rfl ?_; refine jx2 ?_; refine jl ?_; refine jx4 ?_
  exact Rts.resN (fn:=Tryz.f143) (u:=5) rfl rfl (arr_res zi zi) (osl_res zi) inferInstance

end Go.Fl

/- Contracts: integers of the package field (reading, normal form). -/
namespace Go.Fl
open Go Go.Proofs
open TrL renaming op→tO
open RunD renaming op→rO
set_option maxRecDepth 100000

def eW:Enc (Bool×List Int):=eC (fun v:Bool×List Int=>(v.1,v.2,())) (eP eBool (eP (eL eI) eU))
instance {v:Bool×List Int}:CellsK (kRd eW v) [kB (v.1),kRd (eL eI) (v.2)]:=inferInstanceAs (CellsK (kRd (eC (fun v:Bool×List Int=>(v.1,v.2,())) (eP eBool (eP (eL eI) eU))) v) _)
instance {v:Bool×List Int} {tl:List Know}:EncCells eW v tl (kB (v.1)::kRd (eL eI) (v.2)::tl):=inferInstanceAs (EncCells (eC (fun v:Bool×List Int=>(v.1,v.2,())) (eP eBool (eP (eL eI) eU))) v tl _)
instance {v:Bool×List Int}:Norm eW v (kRd eW v):=⟨fun h=>h⟩
instance {v:Bool×List Int}:FieldP eW v 0 eBool (v.1) 0:=inferInstanceAs (FieldP (eC (fun v:Bool×List Int=>(v.1,v.2,())) (eP eBool (eP (eL eI) eU))) v 0 _ _ _)
instance {v:Bool×List Int}:FieldP eW v 1 (eL eI) (v.2) 1:=inferInstanceAs (FieldP (eC (fun v:Bool×List Int=>(v.1,v.2,())) (eP eBool (eP (eL eI) eU))) v 1 _ _ _)
instance {ks r:List Know} {b:Bool} {l:List Int} [h:RdOf ks (eP eBool (eP (eL eI) eU)) (b,l,()) r]:RdOf ks eW ((b,l)) r:=⟨fun h'=>h.imp h'⟩
instance {z:Int}:FieldP eW (wh z) 0 eBool (decide (z<0)) 0:=inferInstanceAs (FieldP eW (wh z) 0 eBool ((wh z).1) _)
instance {z:Int}:FieldP eW (wh z) 1 (eL eI) (digN z.natAbs) 1:=inferInstanceAs (FieldP eW (wh z) 1 (eL eI) ((wh z).2) _)
instance {z:Int}:CellsK (kRd eW (wh z)) [kB (decide (z<0)),kRd (eL eI) (digN z.natAbs)]:=inferInstanceAs (CellsK (kRd eW (wh z)) [kB ((wh z).1),kRd (eL eI) ((wh z).2)])
instance {z:Int} {tl:List Know}:EncCells eW (wh z) tl (kB (decide (z<0))::kRd (eL eI) (digN z.natAbs)::tl):=inferInstanceAs (EncCells eW (wh z) tl (kB ((wh z).1)::kRd (eL eI) ((wh z).2)::tl))
theorem ct_floored (n:Int) (hn:-9223372036854775808≤n∧n≤9223372036854775807):Ct Tryz.prog 195 [kI n] (kTup [kI (n/100000000),kI (n%100000000)]):=by
 obtain ⟨hq1,hq2,hq3⟩:=td8 n
 refine Ct.mk Tryz.func195 rfl Tryz.ntmps195 rfl (fun w J=>?_); refine jx9 ?_; refine tO (ok_quo rfl uu rfl uu (fun _=>zo)) rfl rfl ?_; refine jx1 ?_; refine tO (ok_rem rfl uu rfl uu (fun _=>zo)) rfl rfl ?_; refine jx11 ?_; refine jq ?_ ?_
 ·intro h2
  refine jx12 ?_; exact Rts.res (fn:=Tryz.f195) (ts:=[2,3]) rfl rfl (.i rfl zo<|.i rfl zo<|.nil)
 ·intro h2
  replace h2:=Int.not_lt.1 h2
  refine jx11 ?_; exact Rts.res (fn:=Tryz.f195) (ts:=[2,3]) rfl rfl (.i rfl zo<|.i rfl zo<|.nil)

theorem ct_trimmedV (xs:List Int) (ad:Option Addr) (cp:Nat):Ct Tryz.prog 190 [kSlv eI ad cp xs] (kSlv eI ad cp (trimL xs)):=by
 refine Ct.mk Tryz.func190 rfl Tryz.ntmps190 rfl (fun w J=>?_); refine Tr.fact (s:=0) rfl (fun _ _ h=>lenB h.2) (fun hb=>?_); refine jx5 ?_; refine Tr.for (σ:=Nat) [] [] (fun m=>[⟨0,true,[],kSlv eI ad cp (xs.take m)⟩]) (fun m=>[]) (fun m=>m≤xs.length∧∀i,m≤i→i<xs.length→nth xs i=0) (fun m=>trimL xs=xs.take m) (fun m=>m) (xs.length) ⟨by omega,fun i h1 h2=>absurd h1 zo⟩ (Ent.mk (.v rfl (List.take_length).symm<|.nil) (.nil) rfl) ?_ ?_
 ·rintro m ⟨hm,hz⟩
  refine jn ?_
  have hl:(xs.take m).length=m:=by rw[List.length_take]; omega
  have hat:0<m→nth (xs.take m) ((((xs.take m).length:Nat):Int)-1).toNat=nth xs (m-1):=fun h=>by rw[hl,show (((m:Nat):Int)-1).toNat=m-1 by omega]; exact nth_take zo
  refine jx4 ?_; refine tO (ok_lenV rfl uu) rfl rfl ?_; refine jx4 ?_; refine TrL.gd rfl rfl rfl (ok_lenV rfl id) rfl rfl ?_; refine TrL.gd rfl rfl rfl (ok_sub rfl id rfl uu (fun hp=>by simp at hp; omega)) rfl rfl ?_; refine TrL.gd rfl rfl rfl (ok_idxV rfl id rfl id rfl (fun hp=>by simp at hp; omega)) rfl rfl ?_; refine jx5 ?_; refine Tr.cnd rfl ?_ ?_
  ·intro h1
   try simp only[decide_eq_true_eq,Bool.and_eq_true] at h1
   refine jx6 ?_; refine tO (ok_lenV rfl uu) rfl rfl ?_; refine jx1 ?_; refine tO (ok_slVh rfl uu rfl uu (fun _=>zo)) rfl rfl ?_; refine jx3 ?_; exact End.lp (m-1) ⟨by omega,fun i h2 h3=>by (by_cases e:i=m-1; subst e; rw[← hat zo]; exact h1.2; exact hz i zo h3)⟩ zo (Ent.mk (.v rfl (by rw[List.take_take]; congr 1; omega)<|.nil) (.nil) rfl)
  ·intro h1
   try simp only[decide_eq_true_eq,decide_eq_false_iff_not,Bool.and_eq_false_imp] at h1
   refine jx4 ?_
   exact End.cut (m) (trim_take hm hz (by by_cases e:m=0; exact .inl e; exact .inr (by rw[← hat zo]; exact h1 zo))) (Ent.mk (.v rfl zi<|.nil) (.nil) rfl)
 ·intro m hE0
  refine jn ?_; refine jx7 ?_; exact Rts.res1 (fn:=Tryz.f190) rfl (.v rfl hE0.symm<|.nil)

theorem ct_trimmed (xs:List Int):Ct Tryz.prog 190 [kRd (eL eI) xs] (kRd (eL eI) (trimL xs)):=Ct.ofSlv fun ad cp=>ct_trimmedV xs ad cp

set_option maxHeartbeats 1000000 in
theorem ct_fread (xs:List Int) (hx:InI xs) (hn:xs.length≤1000000):Ct Tryz.prog 167 [kRd (eL eI) xs] (kRd eW (wh (val xs))):=by
 refine Ct.mk Tryz.func167 rfl Tryz.ntmps167 rfl (fun w J=>?_); refine jx2 ?_; refine ja 2 ?_; refine jx18 ?_; refine Tr.grow (s:=3) rfl rfl 3 rfl 3 eI rfl ?_
 refine Tr.for1 (σ:=Nat) [⟨0,true,_,_⟩,⟨2,true,_,_⟩] [⟨2,_,_⟩] (fun i=>[⟨3,true,[3],kOsl 3 i⟩,⟨4,true,[],kI (rdS xs i).2⟩,⟨5,true,[],kI (i:Int)⟩]) (fun i=>[⟨3,[],cArr true 3 eI (rdS xs i).1 i⟩]) (fun i=>(i:Int)+(rdS xs i).2.natAbs≤xs.length+100000000000) (fun i=>xs.length≤i∧((rdS xs i).2=0∨(rdS xs i).2=-1)∧i≤xs.length+100000000000) (fun i=>(xs.length-i)*1000000000000+(rdS xs i).2.natAbs) (0) (by simp[rdS]; omega) (Ent.mk (.o rfl zi rfl<|.i rfl zi<|.i rfl zi<|zk) (.a zi zi<|zk) rfl) ?_ ?_
 ·rintro i hi
  refine jn ?_
  have hc1:=rdS_c hx (i:=i)
  have hc2:=rdS_c hx (i:=i+1)
  have hx1:=hx.x i
  have hs:=rdS_split (xs:=xs) (i:=i)
  have hs2:(rdS xs (i+1)).2=(xAt xs i+(rdS xs i).2)/100000000:=rfl
  have hxo:¬i<xs.length→xAt xs i=0:=xAt_out
  refine jx13 ?_; refine TrL.gd rfl rfl rfl (ok_and rfl id rfl (fun hp h=>gdT2 (id hp) h)) rfl rfl ?_; refine jx3 ?_; refine Tr.cnd rfl ?_ ?_
  ·intro h4
   try simp only[decide_eq_true_eq,Bool.and_eq_true,Bool.or_eq_true,ne_eq] at h4
   refine jx10 ?_; refine Tr.meet2 (σ:=Unit) [⟨0,true,_,_⟩,⟨2,true,_,_⟩,⟨3,true,_,_⟩,⟨4,true,_,_⟩,⟨5,true,_,_⟩] [⟨2,_,_⟩,⟨3,_,_⟩] (zk) (zk) (fun _=>[⟨6,true,[],kI (xAt xs i/100000000)⟩,⟨7,true,[],kI (xAt xs i%100000000)⟩]) (fun _=>[]) (fun _=>True) ?_ ?_
   ·skip
    refine jx8 ?_; refine jq ?_ ?_
    ·intro h7
     refine jx5 ?_; refine tO (ok_call (fun hp=>ct_floored _ (by have:=hx i zo; omega)) (.a rfl uu<|.nil)) rfl rfl ?_; refine jx6 ?_
     exact End.cut (()) zi (Ent.mk (.i rfl (by rw[xAt_in zo])<|.i rfl (by rw[xAt_in zo])<|zk) (zk) rfl)
    ·intro h7
     replace h7:=Int.not_lt.1 h7
     refine jx1 ?_
     exact End.cut (()) zi (Ent.mk (.i rfl (by rw[hxo zo]; rfl)<|.i rfl (by rw[hxo zo]; rfl)<|zk) (zk) rfl)
   ·intro _ hM
    refine jn ?_; refine jx5 ?_; refine tO (ok_call (fun hp=>ct_floored _ zo) (.a rfl uu<|.nil)) rfl rfl ?_; refine jx10 ?_; refine TrL.new (ok_bsl eI 48 (fun hp=>.cons rfl<|.nil) rfl rfl rfl rfl) rfl rfl rfl rfl ?_; refine jx1 ?_; refine jl ?_; refine jx13 ?_
    exact End.lp (i+1) zo zo (Ent.mk (.o rfl zi rfl<|.i rfl hs.1<|.i rfl zi<|zk) (.a (by rw[rdS,← hs.2]) zi<|zk) rfl)
  ·intro h4
   try simp only[decide_eq_true_eq,decide_eq_false_iff_not,Bool.and_eq_false_imp,Bool.or_eq_false_iff,Int.not_lt,ne_eq,Classical.not_not] at h4
   refine jx4 ?_
   exact End.cut (i) ⟨by omega,by omega,by omega⟩ (Ent.mk (.o rfl zi rfl<|.i rfl zi<|.i rfl zi<|zk) (.a zi zi<|zk) rfl)
 ·rintro i ⟨hi,hc,hb⟩
  refine je ?_; refine jx8 ?_; refine jq ?_ ?_
  ·intro h11
   refine jx3 ?_
   refine TrL.frz 3 [3,55] ⟨rfl,rfl,trivial⟩ (by first | (simp only[lenMax]; omega) | (simp only[lenMax,List.length_singleton]; omega)) rfl ?_
   refine jl ?_; refine tO (ok_call (fun hp=>ct_trimmed _) (.a rfl uu<|.nil)) rfl rfl ?_; refine tO (ok_build (fun hp=>.cons rfl rfl rfl<|.nil)) rfl rfl ?_; refine jx5 ?_; exact Rts.resC1 (fn:=Tryz.f167) rfl rfl (aggRd rfl (rd_pos hi h11))
  ·intro h11
   refine jx11 ?_; refine tO (ok_lenO rfl uu) rfl rfl ?_; refine jx3 ?_
   refine Tr.for1 (σ:=Nat) [⟨2,true,_,_⟩,⟨3,true,_,_⟩,⟨58,true,_,_⟩,⟨59,true,_,_⟩] [⟨2,_,_⟩] (fun k=>[⟨10,true,[],kI (bw (rdS xs i).1 k)⟩,⟨60,true,[],kI (k:Int)⟩]) (fun k=>[⟨3,[],cArr true 3 eI (cmL (rdS xs i).1 k) i⟩]) (fun k=>k≤i) (fun k=>k=i) (fun k=>i-k) (0) zi (Ent.mk (.i rfl zi<|.i rfl zi<|zk) (.a cmL_zero zi<|zk) rfl) ?_ ?_
   ·rintro k hk
    refine jn ?_
    have hl:(rdS xs i).1.length=i:=rdS_len
    have hd:=fun (h:k<i)=>(rdS_dg (xs:=xs) (i:=i)).at (i:=k) zo
    have hb01:=bw_01 (ds:=(rdS xs i).1) (k:=k)
    have hat:=fun (h:k<i)=>cmL_at (ds:=(rdS xs i).1) (k:=k) zo
    have hcl:=cmL_len (ds:=(rdS xs i).1) (k:=k)
    have hsv:=fun (h:k<i)=>cm_v (ds:=(rdS xs i).1) (k:=k) zo
    refine jx6 ?_; refine jq ?_ ?_
    ·intro h15
     refine jx18 ?_; refine tO (ok_neg rfl uu (fun _=>zo)) rfl rfl ?_; refine jx20 ?_; refine jq ?_ ?_
     ·intro h19
      refine jx20 ?_
      exact End.lp (k+1) zi zo (Ent.mk (.i rfl (cm_t zo h19).2<|.i rfl zi<|zk) (.a (cm_t zo h19).1 zi<|zk) rfl)
     ·intro h19
      replace h19:=Int.not_lt.1 h19
      refine jx7 ?_
      exact End.lp (k+1) zi zo (Ent.mk (.i rfl (cm_f zo h19).2<|.i rfl zi<|zk) (.a (cm_f zo h19).1 zi<|zk) rfl)
    ·intro h15
     replace h15:=Int.not_lt.1 h15
     refine jx4 ?_
     exact End.cut (k) zo (Ent.mk (.i rfl zi<|.i rfl zi<|zk) (.a zi zi<|zk) rfl)
   ·rintro _ rfl
    refine je ?_; refine jx8 ?_; refine jq ?_ ?_
    ·intro h23
     refine jx2 ?_; refine TrL.new (ok_bsl eI 87 (fun hp=>.cons rfl<|.nil) rfl rfl rfl rfl) rfl rfl rfl rfl ?_; refine jx1 ?_; refine jl ?_; refine jx6 ?_
     refine TrL.frz 3 [3,88,89] ⟨rfl,rfl,rfl,trivial⟩ (by first | (simp only[lenMax]; omega) | (simp only[lenMax,List.length_singleton]; omega)) rfl ?_
     refine jl ?_; refine tO (ok_call (fun hp=>ct_trimmed _) (.a rfl uu<|.nil)) rfl rfl ?_; refine tO (ok_build (fun hp=>.cons rfl rfl rfl<|.cons rfl rfl rfl<|.nil)) rfl rfl ?_; refine jx4 ?_; exact Rts.resC1 (fn:=Tryz.f167) rfl rfl (aggRd rfl (rd_neg0 hi zo zo))
    ·intro h23
     refine jx5 ?_
     refine TrL.frz 3 [3,58,89] ⟨rfl,rfl,rfl,trivial⟩ (by first | (simp only[lenMax]; omega) | (simp only[lenMax,List.length_singleton]; omega)) rfl ?_
     refine jl ?_; refine tO (ok_call (fun hp=>ct_trimmed _) (.a rfl uu<|.nil)) rfl rfl ?_; refine tO (ok_build (fun hp=>.cons rfl rfl rfl<|.cons rfl rfl rfl<|.nil)) rfl rfl ?_; refine jx4 ?_; exact Rts.resC1 (fn:=Tryz.f167) rfl rfl (aggRd rfl (rd_neg1 hi zo zo))

end Go.Fl

/- Contracts: integers of the package field (normal form, signs, comparisons). -/
namespace Go.Fl
open Go Go.Proofs
open TrL renaming op→tO
open RunD renaming op→rO
set_option maxRecDepth 100000

theorem ct_wlistZ  : Ct Tryz.prog 170 [kRd eW (wh 0)] (kRd (eL eI) []):=by
 refine Ct.mk Tryz.func170 rfl Tryz.ntmps170 rfl (fun w J=>?_); refine jx2 ?_; refine jb 1 rfl ?_; refine jx7 ?_; refine tO (ok_call (fun hp=>ct_cloneI _ (by simp[digN_zero])) (.a rfl uu<|.nil)) rfl rfl ?_; refine jx10 ?_; refine Tr.cnd rfl ?_ ?_
 ·intro h2
  exact absurd (of_decide_eq_true h2) zo
 ·intro h2
  refine jx10 ?_; refine Tr.cnd rfl ?_ ?_
  ·intro h8
   refine jx7 ?_; exact Rts.res1 (fn:=Tryz.f170) rfl (.n rfl rfl<|.nil)
  ·intro h8
   exact absurd h8 (by simp[digN_zero])

theorem ct_wlistV (z:Int) (hz:z≠0) (hn:dl z≤1000000):Ct Tryz.prog 170 [kRd eW (wh z)] (kRd (eL eI) (lstZ z)):=by
 have hp:=dl_pos.2 hz
 have hl:(digN z.natAbs).length=dl z:=rfl
 refine Ct.mk Tryz.func170 rfl Tryz.ntmps170 rfl (fun w J=>?_); refine jx2 ?_; refine jb 1 rfl ?_; refine jx7 ?_; refine TrL.new (ok_callN 7 (fun hp=>ct_cloneN _ zo zo) (.a rfl uu<|.nil)) rfl rfl rfl rfl ?_; refine jx10 ?_; refine Tr.cnd rfl ?_ ?_
 ·intro h2
  refine jx3 ?_; refine tO (ok_lenO rfl uu) rfl rfl ?_; refine jx3 ?_
  refine Tr.for1 (σ:=Nat) [⟨3,true,_,_⟩,⟨11,true,_,_⟩] [] (fun k=>[⟨12,true,[],kI (k:Int)⟩]) (fun k=>[⟨7,[],cArr false 3 eI (ngT (digN z.natAbs) k) (dl z)⟩]) (fun k=>k≤dl z) (fun k=>k=dl z) (fun k=>dl z-k) (0) (Nat.zero_le _) (Ent.mk (.i rfl zi<|zk) (.a ngT_zero zi<|.nil) rfl) ?_ ?_
  ·intro k hR0
   refine jn ?_
   have hd:=fun (h:k<dl z)=>(digN_dg z.natAbs).at (i:=k) zo
   have hat:=fun (h:k<dl z)=>ngT_at (ds:=(digN z.natAbs)) (k:=k) zo
   refine jx6 ?_; refine jq ?_ ?_
   ·intro h4
    refine jx17 ?_; refine tO (ok_neg rfl uu (fun _=>zo)) rfl rfl ?_; refine jx9 ?_
    exact End.lp (k+1) zi zo (Ent.mk (.i rfl zi<|zk) (.a (ngT_succ zo) zi<|.nil) rfl)
   ·intro h4
    replace h4:=Int.not_lt.1 h4
    refine jx4 ?_
    exact End.cut (k) zo (Ent.mk (.i rfl zi<|zk) (.a zi zi<|.nil) rfl)
  ·rintro _ rfl
   refine je ?_; refine jx5 ?_; refine tO (ok_lenO rfl uu) rfl rfl ?_; refine jx3 ?_; refine jq ?_ ?_
   ·intro h8
    omega
   ·intro h8
    refine jx8 ?_; refine Tr.frz 7 [2] ⟨rfl,trivial⟩ (by simp only[lenMax]; omega) rfl ?_; refine jx1 ?_; exact Rts.res1 (fn:=Tryz.f170) rfl (.r rfl (lst_neg h2)<|.nil)
 ·intro h2
  refine jx6 ?_; refine tO (ok_lenO rfl uu) rfl rfl ?_; refine jx3 ?_; refine jq ?_ ?_
  ·intro h8
   omega
  ·intro h8
   refine jx8 ?_; refine Tr.frz 7 [2] ⟨rfl,trivial⟩ (by simp only[lenMax]; omega) rfl ?_; refine jx1 ?_; exact Rts.res1 (fn:=Tryz.f170) rfl (.r rfl (lst_pos h2)<|.nil)

theorem ct_wlist (z:Int) (hn:dl z≤1000000):Ct Tryz.prog 170 [kRd eW (wh z)] (kRd (eL eI) (lstZ z)):=by
 by_cases h:z=0
 ·subst h; exact ct_wlistZ
 ·exact ct_wlistV z h hn

theorem ct_wsign (z:Int):Ct Tryz.prog 168 [kRd eW (wh z)] (kI (cmpZ z 0)):=by
 have hp:=dl_pos (z:=z)
 have hl:(digN z.natAbs).length=dl z:=rfl
 refine Ct.mk Tryz.func168 rfl Tryz.ntmps168 rfl (fun w J=>?_); refine jx2 ?_; refine jb 1 rfl ?_; refine jx14 ?_; refine Tr.cnd rfl ?_ ?_
 ·intro h1
  try simp only[decide_eq_true_eq] at h1
  refine jx8 ?_; exact Rts.res1 (fn:=Tryz.f168) rfl (.i rfl (cmpZ_eq zo).symm<|.nil)
 ·intro h1
  try simp only[decide_eq_false_iff_not] at h1
  refine jx7 ?_; refine Tr.cnd rfl ?_ ?_
  ·intro h3
   refine jx8 ?_; exact Rts.res1 (fn:=Tryz.f168) rfl (.i rfl (cmpZ_lt (of_decide_eq_true h3)).symm<|.nil)
  ·intro h3
   refine jx9 ?_; exact Rts.res1 (fn:=Tryz.f168) rfl (.i rfl (cmpZ_gt (by have:=of_decide_eq_false h3; omega)).symm<|.nil)

theorem ct_wminus (z:Int):Ct Tryz.prog 163 [kRd eW (wh z)] (kRd eW (wh (-z))):=by
 refine Ct.mk Tryz.func163 rfl Tryz.ntmps163 rfl (fun w J=>?_); refine jx2 ?_; refine jb 1 rfl ?_; refine ja 2 ?_; refine jx24 ?_; exact Rts.resC1 (fn:=Tryz.f163) rfl rfl (aggRd rfl wh_minus)

theorem ct_fsmall (n:Int) (hn:-9223372036854775808≤n∧n≤9223372036854775807):Ct Tryz.prog 159 [kI n] (kRd eW (wh n)):=by
 refine Ct.mk Tryz.func159 rfl Tryz.ntmps159 rfl (fun w J=>?_); refine jx2 ?_; refine ja 2 ?_; refine jx5 ?_; refine tO (ok_bslJ eI (fun hp=>.cons rfl<|.nil) rfl rfl rfl rfl) rfl rfl ?_; refine jc (ct_fread [n] (fun i hi=>by (simp at hi; subst hi; exact hn)) (by simp)) ?_; refine jx4 ?_; exact Rts.resC1 (fn:=Tryz.f159) rfl rfl (aggRd rfl (by rw[val_one]; rfl))

theorem ct_sizes (m n:Nat) (hm:(digN m).length≤10000000) (_:(digN n).length≤10000000):Ct Tryz.prog 191 [kRd (eL eI) (digN m),kRd (eL eI) (digN n)] (kI (cmpZ m n)):=by
 refine Ct.mk Tryz.func191 rfl Tryz.ntmps191 rfl (fun w J=>?_); refine jx15 ?_; refine jq ?_ ?_
 ·intro h1
  refine jx6 ?_; refine tO (ok_call (fun hp=>ct_cmpZc _ _) (.a rfl uu<|.a rfl uu<|.nil)) rfl rfl ?_; refine jx5 ?_; exact Rts.res1 (fn:=Tryz.f191) rfl (.i rfl (cmpZ_dl zo)<|.nil)
 ·intro h1
  replace h1:=Classical.not_not.1 h1
  refine jx11 ?_
  refine Tr.for1 (σ:=Nat) [⟨0,true,_,_⟩,⟨1,true,_,_⟩] [] (fun i=>[⟨5,true,[],kI ((i:Int)-1)⟩]) (fun i=>[]) (fun i=>i≤(digN m).length∧∀j,i≤j→j<(digN m).length→nth (digN m) j=nth (digN n) j) (fun i=>i=0∧∀j,i≤j→j<(digN m).length→nth (digN m) j=nth (digN n) j) (fun i=>i) ((digN m).length) ⟨by omega,fun j h1 h2=>absurd h1 zo⟩ (Ent.mk (.i rfl zi<|zk) (.nil) rfl) ?_ ?_
  ·rintro i ⟨hi,hR⟩
   refine jn ?_
   have e1:((i:Int)-1).toNat=i-1:=by omega
   refine jx7 ?_; refine jq ?_ ?_
   ·intro h4
    refine jx5 ?_; refine Tr.draw 8 mixed (by kernel_rfl) ?_; refine jx12 ?_; refine jq ?_ ?_
    ·intro h6
     refine jx1 ?_; refine Tr.draw 8 mixed (by kernel_rfl) ?_; refine jx9 ?_; refine tO (ok_call (fun hp=>ct_cmpZc _ _) (.a rfl uu<|.a rfl uu<|.nil)) rfl rfl ?_; refine jx10 ?_; exact Rts.res1 (fn:=Tryz.f191) rfl (.i rfl (by rw[e1]; exact cmpZ_at zo zo (fun j h1 h2=>hR j zo h2) (by rw[← e1]; exact h6))<|.nil)
    ·intro h6
     replace h6:=Classical.not_not.1 h6
     refine jx8 ?_
     exact End.lp (i-1) ⟨by omega,fun j h1 h2=>by (by_cases e:j=i-1; subst e; rw[← e1]; exact h6; exact hR j zo h2)⟩ zo (Ent.mk (.i rfl zi<|zk) (.nil) rfl)
   ·intro h4
    replace h4:=Int.not_le.1 h4
    refine jx4 ?_
    exact End.cut (i) ⟨by omega,hR⟩ (Ent.mk (.i rfl zi<|zk) (.nil) rfl)
  ·rintro i ⟨hi,hR⟩
   refine je ?_; refine jx7 ?_; exact Rts.res1 (fn:=Tryz.f191) rfl (.i rfl (by subst hi; exact cmpZ_all zo hR)<|.nil)

theorem ct_short (a:List Int) (n:Int) (ha:Dg a) (hl:a.length≤10000000) (hn:0<n∧n≤100000000):Ct Tryz.prog 218 [kRd (eL eI) a,kI n] (kTup [kRd (eL eI) (digN (val a/n).toNat),kI (val a%n)]):=by
 refine Ct.mk Tryz.func218 rfl Tryz.ntmps218 rfl (fun w J=>?_); refine jx10 ?_; refine TrL.new (ok_makeN eI 11 rfl uu rfl uu rfl rfl rfl (fun _=>zo)) rfl rfl rfl rfl ?_; refine jx13 ?_
 refine Tr.for1 (σ:=Nat×List Int×Int) [⟨0,true,_,_⟩,⟨1,true,_,_⟩,⟨6,true,_,_⟩] [] (fun (i,o,r)=>[⟨7,true,[],kI r⟩,⟨8,true,[],kI ((i:Int)-1)⟩]) (fun (i,o,r)=>[⟨11,[],cArr false 3 eI o a.length⟩]) (fun (i,o,r)=>i≤a.length∧ShS a o n i r) (fun (i,o,r)=>i=0∧ShS a o n 0 r) (fun (i,o,r)=>i) ((a.length,List.replicate a.length 0,0)) ⟨Nat.le_refl _,ShS.start hn.1⟩ (Ent.mk (.i rfl zi<|.i rfl zi<|zk) (.a zi zi<|.nil) rfl) ?_ ?_
 ·rintro ⟨i,o,r⟩ ⟨hi,hs⟩
  refine jn ?_
  have e1:((i:Int)-1).toNat=i-1:=by omega
  have hr0:=hs.r0
  have hq:=fun (h:0<i)=>ShS.q (i:=i-1) ha (by rw[show i-1+1=i by omega]; exact hs) zo
  have ha1:=fun (h:0<i)=>ha.at (i:=i-1) zo
  refine jx7 ?_; refine jq ?_ ?_
  ·intro h3
   refine jx6 ?_
   have ha2:=ha1 zo
   rw[← e1] at ha2
   refine jx10 ?_; refine Tr.drawS 9 11 mixed (by kernel_rfl) ?_
   obtain ⟨q1,q2,q3,q4⟩:=hq zo
   rw[← e1] at q1 q2
   rw[← Int.tdiv_eq_ediv_of_nonneg zo] at q1 q2
   refine RunS.opA (ok_move rfl uu) (by kernel_rfl) rfl rfl ?_; refine RunS.opA (ok_move rfl uu) (by kernel_rfl) rfl rfl ?_; refine RunS.opA (ok_move rfl uu) (by kernel_rfl) rfl rfl ?_; refine RunS.opA (ok_move rfl uu) (by kernel_rfl) rfl rfl ?_; refine RunS.opA (ok_quo rfl uu rfl uu (fun _=>zo)) (by kernel_rfl) rfl rfl ?_; refine RunS.op (ok_move rfl uu) rfl rfl ?_; refine RunS.op (ok_move rfl uu) rfl rfl ?_; refine RunS.op (ok_rem rfl uu rfl uu (fun _=>zo)) rfl rfl ?_
   first | refine RunS.opA (ok_idxEN rfl uu rfl uu (fun _=>zo)) (by kernel_rfl) rfl rfl ?_ | refine RunS.opA (ok_idxE rfl uu rfl uu (fun _=>zo)) (by kernel_rfl) rfl rfl ?_
   refine RunS.z (st_E rfl rfl rfl rfl rfl) rfl rfl rfl ?_; refine jx9 ?_
   exact End.lp ((i-1,o.set (i-1) ((r*100000000+nth a (i-1))/n),(r*100000000+nth a (i-1))%n)) ⟨by omega,ShS.next ha (by rw[show i-1+1=i by omega]; exact hs) zo⟩ (by show i-1<i; omega) (Ent.mk (.i rfl (by rw[e1,Int.tmod_eq_emod_of_nonneg zo])<|.i rfl zi<|zk) (.a (by rw[e1,Int.tdiv_eq_ediv_of_nonneg zo]) zi<|.nil) rfl)
  ·intro h3
   replace h3:=Int.not_le.1 h3
   refine jx4 ?_
   exact End.cut ((i,o,r)) (by obtain rfl:i=0:=zo; exact ⟨rfl,hs⟩) (Ent.mk (.i rfl zi<|.i rfl zi<|zk) (.a zi zi<|.nil) rfl)
 ·rintro ⟨i,o,r⟩ ⟨rfl,hs⟩
  refine je ?_; refine jx4 ?_; refine TrL.frz 11 [6,35] ⟨rfl,rfl,trivial⟩ (by simp only[lenMax]; omega) rfl ?_; refine jl ?_; refine tO (ok_call (fun hp=>ct_trimmed _) (.a rfl uu<|.nil)) rfl rfl ?_; refine jx6 ?_; exact Rts.res (fn:=Tryz.f218) (ts:=[4,5]) rfl rfl (.r rfl hs.fin.1<|.i rfl hs.fin.2<|.nil)

end Go.Fl

/- Integers: differences in place, sums and products, as the contracts want them. Plain Lean, no program in sight. -/
namespace Go.Fl
def sbU (a b:List Int) (k:Nat):Int:=nth a k-sb a b k-xAt b k
section
variable {a b:List Int} {k:Nat}
theorem sb_succ:sb a b (k+1)=if sbU a b k<0 then 1 else 0:=rfl
theorem sb_m1 (hk:k<a.length) (hb:k<b.length):((sbL a b k).set k (nth (sbL a b k) k-sb a b k)).set k (nth ((sbL a b k).set k (nth (sbL a b k) k-sb a b k)) k-nth b k)=(sbL a b k).set k (sbU a b k):=by
 rw[List.set_set,nth_set (by rw[sbL_len]; exact hk),if_pos rfl,sbL_at hk]
 unfold sbU
 rw[xAt_in hb]
theorem sb_m2 (hk:k<a.length) (hb:¬k<b.length):(sbL a b k).set k (nth (sbL a b k) k-sb a b k)=(sbL a b k).set k (sbU a b k):=by
 rw[sbL_at hk]
 unfold sbU
 rw[xAt_out hb,Int.sub_zero]
theorem sb_w (hk:k<a.length):nth ((sbL a b k).set k (nth (sbL a b k) k-sb a b k)) k=nth a k-sb a b k:=by rw[nth_set (by rw[sbL_len]; exact hk),if_pos rfl,sbL_at hk]
theorem sb_v (hk:k<a.length):nth ((sbL a b k).set k (sbU a b k)) k=sbU a b k:=by rw[nth_set (by rw[sbL_len]; exact hk),if_pos rfl]
theorem sb_t (hk:k<a.length) (h:nth ((sbL a b k).set k (sbU a b k)) k<0):((sbL a b k).set k (sbU a b k)).set k (nth ((sbL a b k).set k (sbU a b k)) k+100000000)=sbL a b (k+1)∧(1:Int)=sb a b (k+1):=by
 rw[sb_v hk] at h ⊢
 refine ⟨?_,by rw[sb_succ,if_pos h]⟩
 rw[List.set_set,← sbL_succ]
 congr 1
 unfold sbU at h ⊢; unfold sbD; rw[if_pos h]
theorem sb_f (hk:k<a.length) (h:0≤nth ((sbL a b k).set k (sbU a b k)) k):(sbL a b k).set k (sbU a b k)=sbL a b (k+1)∧(0:Int)=sb a b (k+1):=by
 rw[sb_v hk] at h
 refine ⟨?_,by rw[sb_succ,if_neg zo]⟩
 rw[← sbL_succ]
 congr 1
 unfold sbD; rw[if_neg (by unfold sbU at h; omega)]; rfl
end
theorem trim_pre:∀{xs:List Int},xs.take (trimL xs).length=trimL xs
 | []=>rfl
 | x::xs=>by
  rw[trimL]
  split
  ·rfl
  ·rw[List.length_cons,List.take_succ_cons,trim_pre]
theorem digN_len_le {m n:Nat} (h:n≤m):(digN n).length≤(digN m).length:=by
 have h1:=dl_lt (m:Int)
 exact dl_le (z:=(n:Int)) (k:=(digN m).length) (by rw[Int.natAbs_natCast]; rw[Int.natAbs_natCast] at h1; exact Int.lt_of_le_of_lt zo h1)
theorem sub_dig {m n:Nat} (h:n≤m):List.take (trimL (sbL (digN m) (digN n) (digN m).length)).length (sbL (digN m) (digN n) (digN m).length)=digN (m-n):=by
 have hm:=digN_val m; have hn:=digN_val n
 have hle:=digN_len_le h
 rw[trim_pre,sub_spec (digN_dg m) (digN_dg n) hle zo]
 congr 1; omega
structure AdR (a b:Int) (X Y:List Int):Prop where
 nx:Nm X
 ny:Nm Y
 le:Y.length≤X.length
 hi:X.length≤10000000
 v:val X+val Y=a.natAbs+b.natAbs
section
variable {a b:Int} {X Y:List Int}
theorem AdR.l (h:(digN b.natAbs).length≤(digN a.natAbs).length) (hi:dl a≤10000000):AdR a b (digN a.natAbs) (digN b.natAbs):=⟨digN_nm _,digN_nm _,h,hi,by rw[digN_val,digN_val]⟩
theorem AdR.r (h:(digN a.natAbs).length<(digN b.natAbs).length) (hi:dl b≤10000000):AdR a b (digN b.natAbs) (digN a.natAbs):=⟨digN_nm _,digN_nm _,by omega,hi,by rw[digN_val,digN_val,Int.add_comm]⟩
theorem wh_same (hs:decide (a<0)=decide (b<0)) {ds:List Int} (hd:ds=digN (a.natAbs+b.natAbs)):(decide (a<0),ds)=wh (a+b):=by
 have e:(a<0)=(b<0):=by simpa using hs
 refine wh_mk ?_ ?_
 ·by_cases h:a<0
  ·have:b<0:=e▸h
   simp[h]; omega
  ·have:¬b<0:=e▸h
   simp[h]; omega
 ·rw[hd]
  congr 1
  by_cases h:a<0
  ·have:b<0:=e▸h
   omega
  ·have:¬b<0:=e▸h
   omega
theorem AdR.zero (h:AdR a b X Y) (hs:decide (a<0)=decide (b<0)) (hc:(adS X Y X.length).2≤0):(decide (a<0),(adS X Y X.length).1)=wh (a+b):=by
 have h1:=adS_c h.nx.dg h.ny.dg (Nat.le_refl X.length)
 refine wh_same hs ?_
 rw[add_zero h.nx h.ny h.le zo,h.v]; congr 1
theorem AdR.one (h:AdR a b X Y) (hs:decide (a<0)=decide (b<0)) (hc:0<(adS X Y X.length).2):(decide (a<0),(adS X Y X.length).1++[(adS X Y X.length).2])=wh (a+b):=by
 have h1:=adS_c h.nx.dg h.ny.dg (Nat.le_refl X.length)
 have h2:(adS X Y X.length).2=1:=by omega
 refine wh_same hs ?_
 rw[h2,add_one h.nx h.ny h.le h2,h.v]; congr 1
theorem wh_null (hs:decide (a<0)≠decide (b<0)) (h:cmpZ (a.natAbs:Nat) (b.natAbs:Nat)=0):(false,[])=wh (a+b):=by
 have e:a.natAbs=b.natAbs:=by unfold cmpZ at h; split at h<;>(try split at h)<;>omega
 have:a+b=0:=by
  by_cases h1:a<0<;>by_cases h2:b<0
  ·exact absurd (by simp[h1,h2]) hs
  ·omega
  ·omega
  ·exact absurd (by simp[h1,h2]) hs
 rw[this]; rfl
theorem cmpZ_1 {m n:Int} (h:cmpZ m n=1):n<m:=by unfold cmpZ at h; split at h<;>(try split at h)<;>omega
theorem cmpZ_m {m n:Int} (h0:cmpZ m n≠0) (h:cmpZ m n≠1):m<n:=by unfold cmpZ at h h0; split at h<;>(try split at h)<;>omega
theorem wh_left (hs:decide (a<0)≠decide (b<0)) (h:b.natAbs<a.natAbs) {ds:List Int} (hd:ds=digN (a.natAbs-b.natAbs)):(decide (a<0),ds)=wh (a+b):=by
 have h3:(a<0∧¬b<0)∨(¬a<0∧b<0):=by
  by_cases h1:a<0<;>by_cases h2:b<0
  ·exact absurd (by simp[h1,h2]) hs
  ·exact .inl ⟨h1,h2⟩
  ·exact .inr ⟨h1,h2⟩
  ·exact absurd (by simp[h1,h2]) hs
 refine wh_mk ?_ (by rw[hd]; congr 1; omega)
 by_cases h1:a<0
 ·simp[h1]; omega
 ·simp[h1]; omega
theorem wh_right (hs:decide (a<0)≠decide (b<0)) (h:a.natAbs<b.natAbs) {ds:List Int} (hd:ds=digN (b.natAbs-a.natAbs)):(decide (b<0),ds)=wh (a+b):=by
 rw[Int.add_comm]; exact wh_left (fun e=>hs e.symm) h hd
end
theorem wh_mul {a b:Int} (ha:a≠0) (hb:b≠0) {o:List Int} (h:MuR (digN a.natAbs) (digN b.natAbs) o (digN a.natAbs).length):(decide (decide (a<0)≠decide (b<0)),trimL o)=wh (a*b):=by
 have e:=h.fin (digN_dg _) (digN_dg _)
 rw[digN_val,digN_val] at e
 refine wh_mk ?_ (by rw[e]; congr 1; rw[Int.natAbs_mul]; omega)
 by_cases h1:a<0<;>by_cases h2:b<0
 ·have:=Int.mul_pos_of_neg_of_neg h1 h2; simp[h1,h2]; omega
 ·have:=Int.mul_neg_of_neg_of_pos h1 (show 0<b by omega); simp[h1,h2]; omega
 ·have:=Int.mul_neg_of_pos_of_neg (show 0<a by omega) h2; simp[h1,h2]; omega
 ·have:=Int.mul_pos (show 0<a by omega) (show 0<b by omega); simp[h1,h2]; omega
theorem wh_mul0 {a b:Int} (h:a=0∨b=0):(false,[])=wh (a*b):=by
 rcases h with rfl | rfl
 ·rw[Int.zero_mul]; rfl
 ·rw[Int.mul_zero]; rfl
theorem mul_dig {a b:Int} {o:List Int} (h:MuR (digN a.natAbs) (digN b.natAbs) o (digN a.natAbs).length):trimL o=digN (a*b).natAbs:=by
 have e:=h.fin (digN_dg _) (digN_dg _)
 rw[digN_val,digN_val] at e
 rw[e]; congr 1; rw[Int.natAbs_mul]; omega
end Go.Fl

/- Contracts: integers of the package field (differences in place, sums, products). -/
namespace Go.Fl
open Go Go.Proofs
open TrL renaming op→tO
open RunD renaming op→rO
set_option maxRecDepth 100000

theorem ct_fless (a b:List Int) (ha:Dg a) (hb:Dg b) (_:b.length≤a.length) (h0:0<a.length) (hn:a.length≤10000000):CtR Tryz.prog 192 (a.length) [kRd (eL eI) b] (cArr false 3 eI a a.length) (cArr false 3 eI (sbL a b a.length) a.length) (kOsq 0 1 0 (trimL (sbL a b a.length)).length):=by
 refine CtR.mk Tryz.func192 rfl Tryz.ntmps192 rfl (fun w J bb cap=>?_); refine jx13 ?_; refine tO (ok_moveAt rfl uu) rfl rfl ?_; refine tO (ok_lenO rfl uu) rfl rfl ?_; refine jx3 ?_
 refine Tr.for1 (σ:=Nat) [⟨0,true,_,_⟩,⟨1,true,_,_⟩,⟨8,true,_,_⟩] [] (fun k=>[⟨9,true,[],kI (k:Int)⟩,⟨5,true,[],kI (sb a b k)⟩]) (fun k=>[⟨0,[],cArr false 3 eI (sbL a b k) a.length⟩]) (fun k=>k≤a.length) (fun k=>k=a.length) (fun k=>a.length-k) (0) (Nat.zero_le _) (Ent.mk (.i rfl zi<|.i rfl zi<|zk) (.a sbL_zero zi<|.nil) rfl) ?_ ?_
 ·intro k hR0
  refine jn ?_
  have hbx:=hb.x k
  have h01:=sb_01 (a:=a) (b:=b) (k:=k)
  have hcl:=sbL_len (a:=a) (b:=b) (k:=k)
  have had:=fun (h:k<a.length)=>ha.at (i:=k) h
  have hat:=fun (h:k<a.length)=>sbL_at (a:=a) (b:=b) h
  have hw:=fun (h:k<a.length)=>sb_w (b:=b) h
  have hv:=fun (h:k<a.length)=>sb_v (b:=b) h
  have hbi:=fun (h:k<b.length)=>xAt_in h
  have hU:sbU a b k=nth a k-sb a b k-xAt b k:=rfl
  refine jx6 ?_; refine jq ?_ ?_
  ·intro h3
   refine jx12 ?_; refine tO (ok_moveAt rfl uu) rfl rfl ?_; refine jx9 ?_; refine Tr.meet2 (σ:=Unit) [⟨0,true,_,_⟩,⟨1,true,_,_⟩,⟨6,true,_,_⟩,⟨8,true,_,_⟩,⟨9,true,_,_⟩] [] (zk) (.nil) (fun _=>[]) (fun _=>[⟨0,[],cArr false 3 eI ((sbL a b k).set k (sbU a b k)) a.length⟩]) (fun _=>True) ?_ ?_
   ·skip
    refine jx8 ?_; refine jq ?_ ?_
    ·intro h6
     refine Tr.draw 8 mixed (by kernel_rfl) ?_; refine rO (ok_moveAt rfl uu) rfl rfl ?_; refine jx12 ?_
     exact End.cut (()) zi (Ent.mk (zk) (.a (sb_m1 zo zo) zi<|.nil) rfl)
    ·intro h6
     replace h6:=Int.not_lt.1 h6
     refine jx1 ?_
     exact End.cut (()) zi (Ent.mk (zk) (.a (sb_m2 zo zo) zi<|.nil) rfl)
   ·intro _ hM
    refine jn ?_; refine jx7 ?_; refine tO (ok_moveAt rfl uu) rfl rfl ?_; refine jx6 ?_; refine jq ?_ ?_
    ·intro h9
     refine jx2 ?_; refine tO (ok_moveAt rfl uu) rfl rfl ?_; refine jx17 ?_
     exact End.lp (k+1) zi zo (Ent.mk (.i rfl zi<|.i rfl (sb_t zo h9).2<|zk) (.a (sb_t zo h9).1 zi<|.nil) rfl)
    ·intro h9
     replace h9:=Int.not_lt.1 h9
     refine jx7 ?_
     exact End.lp (k+1) zi zo (Ent.mk (.i rfl zi<|.i rfl (sb_f zo h9).2<|zk) (.a (sb_f zo h9).1 zi<|.nil) rfl)
  ·intro h3
   replace h3:=Int.not_lt.1 h3
   refine jx4 ?_
   exact End.cut (k) zo (Ent.mk (.i rfl zi<|.i rfl zi<|zk) (.a zi zi<|.nil) rfl)
 ·rintro _ rfl
  refine je ?_; refine jx3 ?_; refine tO (ok_moveAt rfl uu) rfl rfl ?_; refine tO (ok_lendV (n:=1) (fun ad cap=>ct_trimmedV (sbL a b a.length) ad cap) rfl uu (fun _=>⟨by omega,by simp only[lenMax]; omega,by have:=trim_len (xs:=sbL a b a.length); rw[sbL_len] at this; exact this⟩)) rfl rfl ?_; refine jx4 ?_; exact Rts.mutR (s:=0) (fn:=Tryz.f192) rfl rfl rfl (fun _ _ h=>h) (fun _ _ hm h=>osq_back hm h)

set_option maxHeartbeats 1000000 in
theorem ct_wplus (a b:Int) (ha:dl a≤1000000) (hb:dl b≤1000000):Ct Tryz.prog 162 [kRd eW (wh a),kRd eW (wh b)] (kRd eW (wh (a+b))):=by
 have hal:(digN a.natAbs).length=dl a:=rfl
 have hbl:(digN b.natAbs).length=dl b:=rfl
 refine Ct.mk Tryz.func162 rfl Tryz.ntmps162 rfl (fun w J=>?_); refine jx2 ?_; refine jb 2 rfl ?_; refine jb 3 rfl ?_; refine ja 4 ?_; refine jx9 ?_; refine tO (ok_eqlB rfl uu rfl uu) rfl rfl ?_; refine jx2 ?_; refine Tr.cnd rfl ?_ ?_
 ·intro h1
  have hs:=of_decide_eq_true h1
  refine jx1 ?_; refine Tr.draw 5 mixed (by kernel_rfl) ?_; refine jx9 ?_; refine Tr.meet2 (σ:=List Int×List Int) [⟨2,true,_,_⟩,⟨4,true,_,_⟩] [⟨2,_,_⟩,⟨4,_,_⟩] (zk) (zk) (fun (X,Y)=>[⟨5,true,[],kRd (eL eI) X⟩,⟨6,true,[],kRd (eL eI) Y⟩]) (fun (X,Y)=>[]) (fun (X,Y)=>AdR a b X Y) ?_ ?_
  ·skip
   refine jx9 ?_; refine jq ?_ ?_
   ·intro h3
    refine jx6 ?_; exact End.cut (((digN b.natAbs),(digN a.natAbs))) (AdR.r zo zo) (Ent.mk (.r rfl rfl<|.r rfl rfl<|zk) (zk) rfl)
   ·intro h3
    replace h3:=Int.not_lt.1 h3
    refine jx1 ?_; exact End.cut (((digN a.natAbs),(digN b.natAbs))) (AdR.l zo zo) (Ent.mk (.r rfl rfl<|.r rfl rfl<|zk) (zk) rfl)
  ·rintro ⟨X,Y⟩ hA
   refine jn ?_
   have hXl:=hA.hi
   have hYl:=hA.le
   refine jx5 ?_; refine TrL.new (ok_make0 eI 30 rfl uu rfl uu rfl (fun _=>zo)) rfl rfl rfl rfl ?_; refine jx16 ?_
   refine Tr.for1 (σ:=Nat) [⟨2,true,_,_⟩,⟨4,true,_,_⟩,⟨6,true,_,_⟩,⟨31,true,_,_⟩,⟨32,true,_,_⟩] [⟨2,_,_⟩,⟨4,_,_⟩] (fun k=>[⟨33,true,[],kI (k:Int)⟩,⟨7,true,[30],kOsl 30 k⟩,⟨8,true,[],kI (adS X Y k).2⟩]) (fun k=>[⟨30,[],cArr false 3 eI (adS X Y k).1 k⟩]) (fun k=>k≤X.length) (fun k=>k=X.length) (fun k=>X.length-k) (0) (Nat.zero_le _) (Ent.mk (.i rfl zi<|.o rfl zi rfl<|.i rfl zi<|zk) (.a zi zi<|zk) rfl) ?_ ?_
   ·intro k hR0
    refine jn ?_
    have hXd:=fun (h:k<X.length)=>hA.nx.dg.at (i:=k) h
    have hYx:=hA.ny.dg.x k
    have hcc:=fun (h:k≤X.length)=>adS_c hA.nx.dg hA.ny.dg (i:=k) h
    have hYi:=fun (h:k<Y.length)=>xAt_in h
    have hYo:=fun (h:¬k<Y.length)=>xAt_out h
    refine jx6 ?_; refine jq ?_ ?_
    ·intro h8
     refine jx21 ?_; refine Tr.meet2 (σ:=Unit) [⟨2,true,_,_⟩,⟨4,true,_,_⟩,⟨6,true,_,_⟩,⟨7,true,_,_⟩,⟨31,true,_,_⟩,⟨32,true,_,_⟩,⟨33,true,_,_⟩] [⟨2,_,_⟩,⟨4,_,_⟩,⟨30,_,_⟩] (zk) (zk) (fun _=>[⟨10,true,[],kI (nth X k+(adS X Y k).2+xAt Y k)⟩]) (fun _=>[]) (fun _=>True) ?_ ?_
     ·skip
      refine jx8 ?_; refine jq ?_ ?_
      ·intro h11
       refine jx9 ?_
       exact End.cut (()) zi (Ent.mk (.i rfl (by rw[xAt_in zo])<|zk) (zk) rfl)
      ·intro h11
       replace h11:=Int.not_lt.1 h11
       refine jx1 ?_
       exact End.cut (()) zi (Ent.mk (.i rfl (by rw[xAt_out zo,Int.add_zero])<|zk) (zk) rfl)
     ·intro _ hM
      refine jn ?_; refine jx2 ?_
      obtain ⟨hq1,hq2,hq3⟩:=td8 (nth X k+(adS X Y k).2+xAt Y k)
      refine jx1 ?_; refine tO (ok_quo rfl uu rfl uu (fun _=>zo)) rfl rfl ?_; refine jx6 ?_; refine tO (ok_rem rfl uu rfl uu (fun _=>zo)) rfl rfl ?_; refine TrL.new (ok_bsl eI 56 (fun hp=>.cons rfl<|.nil) rfl rfl rfl rfl) rfl rfl rfl rfl ?_; refine jx1 ?_; refine jl ?_; refine jx8 ?_
      exact End.lp (k+1) zi zo (Ent.mk (.i rfl zi<|.o rfl zi rfl<|.i rfl (by rw[Int.tdiv_eq_ediv_of_nonneg zo]; rfl)<|zk) (.a (by rw[Int.tmod_eq_emod_of_nonneg zo]; rfl) zi<|zk) rfl)
    ·intro h8
     replace h8:=Int.not_lt.1 h8
     refine jx4 ?_
     exact End.cut (k) zo (Ent.mk (.i rfl zi<|.o rfl zi rfl<|.i rfl zi<|zk) (.a zi zi<|zk) rfl)
   ·rintro _ rfl
    refine je ?_
    have hcc:=adS_c hA.nx.dg hA.ny.dg (Nat.le_refl X.length)
    refine jx8 ?_; refine jq ?_ ?_
    ·intro h16
     refine jx3 ?_; refine TrL.new (ok_bsl eI 63 (fun hp=>.cons rfl<|.nil) rfl rfl rfl rfl) rfl rfl rfl rfl ?_; refine jx1 ?_; refine jl ?_; refine jx8 ?_; refine tO (ok_build (fun hp=>.cons rfl rfl rfl<|.cons rfl rfl rfl<|.nil)) rfl rfl ?_; refine jx3 ?_
     refine Tr.frzC 30 4 (by simp only[lenMax]; first | omega | (rw[List.length_singleton]; omega)) rfl rfl ?_
     refine jx2 ?_; exact Rts.resC1 (fn:=Tryz.f162) rfl rfl (aggRd rfl (hA.one hs h16))
    ·intro h16
     replace h16:=Int.not_lt.1 h16
     refine jx7 ?_; refine tO (ok_build (fun hp=>.cons rfl rfl rfl<|.cons rfl rfl rfl<|.nil)) rfl rfl ?_; refine jx3 ?_
     refine Tr.frzC 30 4 (by simp only[lenMax]; first | omega | (rw[List.length_singleton]; omega)) rfl rfl ?_
     refine jx2 ?_; exact Rts.resC1 (fn:=Tryz.f162) rfl rfl (aggRd rfl (hA.zero hs zo))
 ·intro h1
  have hs:=of_decide_eq_false h1
  refine jx9 ?_; refine jc (ct_sizes a.natAbs b.natAbs zo zo) ?_; refine jx9 ?_; refine Tr.cnd rfl ?_ ?_
  ·intro h20
   try simp only[decide_eq_true_eq] at h20
   have hc0:cmpZ (a.natAbs:Nat) (b.natAbs:Nat)=0:=by omega
   refine jx2 ?_; refine tO (ok_build (fun hp=>.nil)) rfl rfl ?_; refine jx6 ?_; exact Rts.resC1 (fn:=Tryz.f162) rfl rfl (aggRd rfl (wh_null hs hc0))
  ·intro h20
   try simp only[decide_eq_false_iff_not] at h20
   refine jx6 ?_; refine Tr.cnd rfl ?_ ?_
   ·intro h22
    try simp only[decide_eq_true_eq] at h22
    have hlt:=cmpZ_1 h22
    have hp1:=dl_pos (z:=a)
    have hlz:a≠0:=by omega
    have hp2:=hp1.2 hlz
    refine jx1 ?_; refine Tr.ent (S':=[⟨0,true,_,_⟩,⟨1,true,_,_⟩,⟨2,true,_,_⟩,⟨3,true,_,_⟩,⟨4,true,_,_⟩,⟨11,true,_,_⟩,⟨12,true,_,_⟩,⟨13,true,_,_⟩,⟨14,true,_,_⟩,⟨15,true,_,_⟩,⟨69,true,_,_⟩,⟨70,true,_,_⟩,⟨71,true,_,_⟩,⟨72,true,_,_⟩,⟨73,true,_,_⟩,⟨75,true,_,_⟩,⟨74,true,_,_⟩,⟨78,true,_,_⟩,⟨77,true,_,_⟩]) (M':=[⟨2,_,_⟩,⟨3,_,_⟩,⟨4,_,_⟩]) (Ent.mk (zk) (zk) rfl) ?_; refine Tr.drawQ [⟨2,_,_⟩,⟨3,_,_⟩] [⟨4,_,_⟩] rfl mixed #[false,false,false,false,false,false,false,false,false,false] rfl fun f=>?_
    simp only[pinM,List.map_cons,List.map_nil,List.cons_append,List.nil_append]
    refine TrA.take 0 #[true,false,false,false,false,false,false,false,false,false] (by kernel_rfl) (by kernel_rfl) (by kernel_rfl) rfl rfl (y_fldO rfl) rfl rfl ?_; refine TrA.take 1 #[true,true,false,false,false,false,false,false,false,false] (by kernel_rfl) (by kernel_rfl) (by kernel_rfl) rfl rfl (y_ldP rfl rfl) rfl rfl ?_; refine TrA.take 2 #[true,true,true,false,false,false,false,false,false,false] (by kernel_rfl) (by kernel_rfl) (by kernel_rfl) rfl rfl (y_fldO rfl) rfl rfl ?_; refine TrA.take 3 #[true,true,true,true,false,false,false,false,false,false] (by kernel_rfl) (by kernel_rfl) (by kernel_rfl) rfl rfl (y_ldP rfl rfl) rfl rfl ?_
    refine TrA.take 5 #[true,true,true,true,false,true,false,false,false,false] (by kernel_rfl) (by kernel_rfl) (by kernel_rfl) rfl rfl (y_fldO rfl) rfl rfl ?_; refine TrA.take 6 #[true,true,true,true,false,true,true,false,false,false] (by kernel_rfl) (by kernel_rfl) (by kernel_rfl) rfl rfl (y_ldP rfl rfl) rfl rfl ?_; refine TrA.one 4 (by kernel_rfl) rfl ?_; refine TrL.new (ok_callN 83 (fun hp=>ct_cloneN _ zo zo) (.a rfl uu<|.nil)) rfl rfl rfl rfl ?_; refine TrA.k #[true,true,true,true,true,true,true,false,false,false] rfl (pinS_ofA (by intro e he; simp only[pinM,List.map_cons,List.map_nil,List.mem_cons,List.not_mem_nil,or_false] at he; rcases he with rfl | rfl<;>simp)) ?_
    refine TrA.one 7 (by kernel_rfl) rfl ?_; refine TrL.mutR (ct_fless _ _ (digN_dg _) (digN_dg _) (digN_len_le zo) zo zo) rfl zo (.a rfl uu<|.nil) rfl (fun _ _ _ _ h=>h) (fun h=>h) rfl ?_; refine jl ?_; refine TrL.frzQ 83 [86] ⟨rfl,trivial⟩ (⟨by have:=trim_len (xs:=sbL (digN a.natAbs) (digN b.natAbs) (digN a.natAbs).length); rw[sbL_len] at this; exact this,by simp only[lenMax]; omega⟩) rfl ?_; refine jl ?_; refine TrA.k #[true,true,true,true,true,true,true,true,false,false] rfl (pinS_ofA (by intro e he; simp only[pinM,List.map_cons,List.map_nil,List.mem_cons,List.not_mem_nil,or_false] at he; rcases he with rfl | rfl<;>simp)) ?_
    refine TrA.one 8 (by kernel_rfl) rfl ?_; refine tO (ok_build (fun hp=>.cons rfl rfl rfl<|.cons rfl rfl rfl<|.nil)) rfl rfl ?_; refine TrA.k #[true,true,true,true,true,true,true,true,true,false] rfl (pinS_ofA (by intro e he; simp only[pinM,List.map_cons,List.map_nil,List.mem_cons,List.not_mem_nil,or_false] at he; rcases he with rfl | rfl<;>simp)) ?_; refine TrA.one 9 (by kernel_rfl) rfl ?_; refine TrL.stB rfl rfl rfl rfl ?_; refine TrA.k #[true,true,true,true,true,true,true,true,true,true] rfl (pinS_ofA (by intro e he; simp only[pinM,List.map_cons,List.map_nil,List.mem_cons,List.not_mem_nil,or_false] at he; rcases he with rfl | rfl<;>simp)) ?_
    refine TrA.done (by kernel_rfl) ?_; refine jx4 ?_; exact Rts.resC1 (fn:=Tryz.f162) rfl rfl (aggRd rfl (wh_left hs zo (sub_dig zo)))
   ·intro h22
    try simp only[decide_eq_false_iff_not] at h22
    have hlt:=cmpZ_m h20 h22
    have hp1:=dl_pos (z:=b)
    have hlz:b≠0:=by omega
    have hp2:=hp1.2 hlz
    refine jx4 ?_; refine Tr.ent (S':=[⟨0,true,_,_⟩,⟨1,true,_,_⟩,⟨2,true,_,_⟩,⟨3,true,_,_⟩,⟨4,true,_,_⟩,⟨11,true,_,_⟩,⟨12,true,_,_⟩,⟨13,true,_,_⟩,⟨14,true,_,_⟩,⟨15,true,_,_⟩,⟨69,true,_,_⟩,⟨70,true,_,_⟩,⟨71,true,_,_⟩,⟨72,true,_,_⟩,⟨73,true,_,_⟩,⟨75,true,_,_⟩,⟨74,true,_,_⟩,⟨78,true,_,_⟩,⟨77,true,_,_⟩]) (M':=[⟨2,_,_⟩,⟨3,_,_⟩,⟨4,_,_⟩]) (Ent.mk (zk) (zk) rfl) ?_; refine Tr.drawQ [⟨2,_,_⟩,⟨3,_,_⟩] [⟨4,_,_⟩] rfl mixed #[false,false,false,false,false,false,false,false,false,false] rfl fun f=>?_
    simp only[pinM,List.map_cons,List.map_nil,List.cons_append,List.nil_append]
    refine TrA.take 0 #[true,false,false,false,false,false,false,false,false,false] (by kernel_rfl) (by kernel_rfl) (by kernel_rfl) rfl rfl (y_fldO rfl) rfl rfl ?_; refine TrA.take 1 #[true,true,false,false,false,false,false,false,false,false] (by kernel_rfl) (by kernel_rfl) (by kernel_rfl) rfl rfl (y_ldP rfl rfl) rfl rfl ?_; refine TrA.take 2 #[true,true,true,false,false,false,false,false,false,false] (by kernel_rfl) (by kernel_rfl) (by kernel_rfl) rfl rfl (y_fldO rfl) rfl rfl ?_; refine TrA.take 3 #[true,true,true,true,false,false,false,false,false,false] (by kernel_rfl) (by kernel_rfl) (by kernel_rfl) rfl rfl (y_ldP rfl rfl) rfl rfl ?_
    refine TrA.take 5 #[true,true,true,true,false,true,false,false,false,false] (by kernel_rfl) (by kernel_rfl) (by kernel_rfl) rfl rfl (y_fldO rfl) rfl rfl ?_; refine TrA.take 6 #[true,true,true,true,false,true,true,false,false,false] (by kernel_rfl) (by kernel_rfl) (by kernel_rfl) rfl rfl (y_ldP rfl rfl) rfl rfl ?_; refine TrA.one 4 (by kernel_rfl) rfl ?_; refine TrL.new (ok_callN 92 (fun hp=>ct_cloneN _ zo zo) (.a rfl uu<|.nil)) rfl rfl rfl rfl ?_; refine TrA.k #[true,true,true,true,true,true,true,false,false,false] rfl (pinS_ofA (by intro e he; simp only[pinM,List.map_cons,List.map_nil,List.mem_cons,List.not_mem_nil,or_false] at he; rcases he with rfl | rfl<;>simp)) ?_
    refine TrA.one 7 (by kernel_rfl) rfl ?_; refine TrL.mutR (ct_fless _ _ (digN_dg _) (digN_dg _) (digN_len_le zo) zo zo) rfl zo (.a rfl uu<|.nil) rfl (fun _ _ _ _ h=>h) (fun h=>h) rfl ?_; refine jl ?_; refine TrL.frzQ 92 [95] ⟨rfl,trivial⟩ (⟨by have:=trim_len (xs:=sbL (digN b.natAbs) (digN a.natAbs) (digN b.natAbs).length); rw[sbL_len] at this; exact this,by simp only[lenMax]; omega⟩) rfl ?_; refine jl ?_; refine TrA.k #[true,true,true,true,true,true,true,true,false,false] rfl (pinS_ofA (by intro e he; simp only[pinM,List.map_cons,List.map_nil,List.mem_cons,List.not_mem_nil,or_false] at he; rcases he with rfl | rfl<;>simp)) ?_
    refine TrA.one 8 (by kernel_rfl) rfl ?_; refine tO (ok_build (fun hp=>.cons rfl rfl rfl<|.cons rfl rfl rfl<|.nil)) rfl rfl ?_; refine TrA.k #[true,true,true,true,true,true,true,true,true,false] rfl (pinS_ofA (by intro e he; simp only[pinM,List.map_cons,List.map_nil,List.mem_cons,List.not_mem_nil,or_false] at he; rcases he with rfl | rfl<;>simp)) ?_; refine TrA.one 9 (by kernel_rfl) rfl ?_; refine TrL.stB rfl rfl rfl rfl ?_; refine TrA.k #[true,true,true,true,true,true,true,true,true,true] rfl (pinS_ofA (by intro e he; simp only[pinM,List.map_cons,List.map_nil,List.mem_cons,List.not_mem_nil,or_false] at he; rcases he with rfl | rfl<;>simp)) ?_
    refine TrA.done (by kernel_rfl) ?_; refine jx2 ?_; exact Rts.resC1 (fn:=Tryz.f162) rfl rfl (aggRd rfl (wh_right hs zo (sub_dig zo)))

end Go.Fl

/- Contracts: integers of the package field (products). -/
namespace Go.Fl
open Go Go.Proofs
open TrL renaming op→tO
open RunD renaming op→rO
set_option maxRecDepth 100000

set_option maxHeartbeats 1000000 in
theorem ct_wtimes (a b:Int) (ha:dl a≤1000000) (hb:dl b≤1000000):Ct Tryz.prog 161 [kRd eW (wh a),kRd eW (wh b)] (kRd eW (wh (a*b))):=by
 have hal:(digN a.natAbs).length=dl a:=rfl
 have hbl:(digN b.natAbs).length=dl b:=rfl
 have hap:=dl_pos (z:=a)
 have hbp:=dl_pos (z:=b)
 refine Ct.mk Tryz.func161 rfl Tryz.ntmps161 rfl (fun w J=>?_); refine jx2 ?_; refine jb 2 rfl ?_; refine jb 3 rfl ?_; refine ja 4 ?_; refine jx17 ?_; refine Tr.cnd rfl ?_ ?_
 ·intro h1
  try simp only[decide_eq_true_eq,Bool.or_eq_true] at h1
  refine jx2 ?_; refine tO (ok_build (fun hp=>.nil)) rfl rfl ?_; refine jx5 ?_; exact Rts.resC1 (fn:=Tryz.f161) rfl rfl (aggRd rfl (wh_mul0 zo))
 ·intro h1
  try simp only[decide_eq_false_iff_not,Bool.or_eq_false_iff] at h1
  refine jx11 ?_; refine TrL.new (ok_make eI 30 rfl uu rfl uu rfl rfl (fun _=>zo)) rfl rfl rfl rfl ?_; refine jx12 ?_
  refine Tr.for1 (σ:=Nat×List Int) [⟨2,true,_,_⟩,⟨3,true,_,_⟩,⟨4,true,_,_⟩,⟨32,true,_,_⟩,⟨33,true,_,_⟩] [⟨2,_,_⟩,⟨3,_,_⟩,⟨4,_,_⟩] (fun (i,o)=>[⟨5,true,[30],kOsl 30 ((digN a.natAbs).length+(digN b.natAbs).length)⟩,⟨34,true,[],kI (i:Int)⟩]) (fun (i,o)=>[⟨30,[],cArr false 3 eI o ((digN a.natAbs).length+(digN b.natAbs).length)⟩]) (fun (i,o)=>i≤(digN a.natAbs).length∧MuR (digN a.natAbs) (digN b.natAbs) o i) (fun (i,o)=>i=(digN a.natAbs).length∧MuR (digN a.natAbs) (digN b.natAbs) o (digN a.natAbs).length) (fun (i,o)=>(digN a.natAbs).length-i) ((0,List.replicate ((digN a.natAbs).length+(digN b.natAbs).length) 0)) ⟨by omega,MuR.start⟩ (Ent.mk (.o rfl zo rfl<|.i rfl zi<|zk) (.a (by congr 1) zo<|zk) rfl) ?_ ?_
  ·rintro ⟨i,o⟩ ⟨hi,hR⟩
   refine jn ?_
   have hAd:=fun (h:i<(digN a.natAbs).length)=>(digN_dg a.natAbs).at (i:=i) h
   refine jx6 ?_; refine jq ?_ ?_
   ·intro h5
    refine jx27 ?_
    refine Tr.for1 (σ:=Nat×List Int×Int) [⟨2,true,_,_⟩,⟨3,true,_,_⟩,⟨4,true,_,_⟩,⟨5,true,_,_⟩,⟨6,true,_,_⟩,⟨7,true,_,_⟩,⟨32,true,_,_⟩,⟨33,true,_,_⟩,⟨34,true,_,_⟩,⟨40,true,_,_⟩,⟨41,true,_,_⟩] [⟨2,_,_⟩,⟨3,_,_⟩,⟨4,_,_⟩] (fun (k,o2,c)=>[⟨8,true,[],kI c⟩,⟨42,true,[],kI (k:Int)⟩]) (fun (k,o2,c)=>[⟨30,[],cArr false 3 eI o2 ((digN a.natAbs).length+(digN b.natAbs).length)⟩]) (fun (k,o2,c)=>k≤(digN b.natAbs).length∧MuS (digN a.natAbs) (digN b.natAbs) o2 i k c) (fun (k,o2,c)=>MuS (digN a.natAbs) (digN b.natAbs) o2 i (digN b.natAbs).length c) (fun (k,o2,c)=>(digN b.natAbs).length-k) ((0,o,0)) ⟨by omega,hR.row⟩ (Ent.mk (.i rfl zi<|.i rfl zi<|zk) (.a zi zi<|zk) rfl) ?_ ?_
    ·rintro ⟨k,o2,c⟩ ⟨hk,hS⟩
     refine jn ?_
     have hn:=fun (h:k<(digN b.natAbs).length)=>hS.n (digN_dg _) (digN_dg _) zo h
     have hc0:=hS.c0
     refine jx6 ?_; refine jq ?_ ?_
     ·intro h9
      refine jx15 ?_
      obtain ⟨n1,n2,n3,n4⟩:=hn zo
      refine jx16 ?_
      obtain ⟨hq1,hq2,hq3⟩:=td8 (nth o2 (i+k)+nth (digN a.natAbs) i*nth (digN b.natAbs) k+c)
      refine jx5 ?_; refine tO (ok_rem rfl uu rfl uu (fun _=>zo)) rfl rfl ?_; refine jx1 ?_; refine tO (ok_quo rfl uu rfl uu (fun _=>zo)) rfl rfl ?_; refine jx10 ?_
      exact End.lp ((k+1,o2.set (i+k) ((nth o2 (i+k)+nth (digN a.natAbs) i*nth (digN b.natAbs) k+c)%100000000),(nth o2 (i+k)+nth (digN a.natAbs) i*nth (digN b.natAbs) k+c)/100000000)) ⟨by omega,hS.next (digN_dg _) (digN_dg _) zo zo⟩ (by show (digN b.natAbs).length-(k+1)<(digN b.natAbs).length-k; omega) (Ent.mk (.i rfl (by rw[Int.tdiv_eq_ediv_of_nonneg zo])<|.i rfl zi<|zk) (.a (by rw[Int.tmod_eq_emod_of_nonneg zo]) zi<|zk) rfl)
     ·intro h9
      replace h9:=Int.not_lt.1 h9
      refine jx4 ?_
      exact End.cut ((k,o2,c)) (by obtain rfl:k=(digN b.natAbs).length:=zo; exact hS) (Ent.mk (.i rfl zi<|.i rfl zi<|zk) (.a zi zi<|zk) rfl)
    ·rintro ⟨k,o2,c⟩ hS
     refine je ?_
     have hc0:=hS.c0
     refine jx18 ?_
     exact End.lp ((i+1,o2.set (i+(digN b.natAbs).length) c)) ⟨by omega,hS.done zo⟩ (by show (digN a.natAbs).length-(i+1)<(digN a.natAbs).length-i; omega) (Ent.mk (.o rfl zi rfl<|.i rfl zi<|zk) (.a rfl zi<|zk) rfl)
   ·intro h5
    replace h5:=Int.not_lt.1 h5
    refine jx4 ?_
    exact End.cut ((i,o)) (by obtain rfl:i=(digN a.natAbs).length:=zo; exact ⟨rfl,hR⟩) (Ent.mk (.o rfl zi rfl<|.i rfl zi<|zk) (.a zi zi<|zk) rfl)
  ·rintro ⟨i,o⟩ ⟨rfl,hR⟩
   refine je ?_; refine jx2 ?_; refine Tr.frz 30 [5] ⟨rfl,trivial⟩ (by simp only[lenMax]; omega) rfl ?_; refine Tr.draw 7 mixed (by kernel_rfl) ?_; refine jx4 ?_; refine rO (ok_neqB rfl uu rfl uu) rfl rfl ?_; refine jx1 ?_; refine rO (ok_call (fun hp=>ct_trimmed _) (.a rfl uu<|.nil)) rfl rfl ?_; refine jx1 ?_; refine tO (ok_build (fun hp=>.cons rfl rfl rfl<|.cons rfl rfl rfl<|.nil)) rfl rfl ?_; refine jx4 ?_; exact Rts.resC1 (fn:=Tryz.f161) rfl rfl (aggRd rfl (wh_mul (hap.1 zo) (hbp.1 zo) hR))

set_option maxHeartbeats 1000000 in
theorem ct_wtimesN (a b:Int) (ha:dl a≤1000000) (hb:dl b≤1000000) (h0:a≠0∧b≠0):CtN Tryz.prog 161 [kRd eW (wh a),kRd eW (wh b)] (fun t=>kAgg [kB (decide (decide (a<0)≠decide (b<0))),kOsq t 1 0 (digN (a*b).natAbs).length]) (cArr false 3 eI (digN (a*b).natAbs) (digN (a*b).natAbs).length):=by
 have hal:(digN a.natAbs).length=dl a:=rfl
 have hbl:(digN b.natAbs).length=dl b:=rfl
 have hap:=dl_pos (z:=a)
 have hbp:=dl_pos (z:=b)
 refine CtN.mk Tryz.func161 rfl Tryz.ntmps161 rfl (fun w J=>?_); refine jx2 ?_; refine jb 2 rfl ?_; refine jb 3 rfl ?_; refine ja 4 ?_; refine jx17 ?_; refine Tr.cnd rfl ?_ ?_
 ·intro h1
  try simp only[decide_eq_true_eq,Bool.or_eq_true] at h1
  omega
 ·intro h1
  try simp only[decide_eq_false_iff_not,Bool.or_eq_false_iff] at h1
  refine jx11 ?_; refine TrL.new (ok_make eI 30 rfl uu rfl uu rfl rfl (fun _=>zo)) rfl rfl rfl rfl ?_; refine jx12 ?_
  refine Tr.for1 (σ:=Nat×List Int) [⟨2,true,_,_⟩,⟨3,true,_,_⟩,⟨4,true,_,_⟩,⟨32,true,_,_⟩,⟨33,true,_,_⟩] [⟨2,_,_⟩,⟨3,_,_⟩,⟨4,_,_⟩] (fun (i,o)=>[⟨5,true,[30],kOsl 30 ((digN a.natAbs).length+(digN b.natAbs).length)⟩,⟨34,true,[],kI (i:Int)⟩]) (fun (i,o)=>[⟨30,[],cArr false 3 eI o ((digN a.natAbs).length+(digN b.natAbs).length)⟩]) (fun (i,o)=>i≤(digN a.natAbs).length∧MuR (digN a.natAbs) (digN b.natAbs) o i) (fun (i,o)=>i=(digN a.natAbs).length∧MuR (digN a.natAbs) (digN b.natAbs) o (digN a.natAbs).length) (fun (i,o)=>(digN a.natAbs).length-i) ((0,List.replicate ((digN a.natAbs).length+(digN b.natAbs).length) 0)) ⟨by omega,MuR.start⟩ (Ent.mk (.o rfl zo rfl<|.i rfl zi<|zk) (.a (by congr 1) zo<|zk) rfl) ?_ ?_
  ·rintro ⟨i,o⟩ ⟨hi,hR⟩
   refine jn ?_
   have hAd:=fun (h:i<(digN a.natAbs).length)=>(digN_dg a.natAbs).at (i:=i) h
   refine jx6 ?_; refine jq ?_ ?_
   ·intro h5
    refine jx27 ?_
    refine Tr.for1 (σ:=Nat×List Int×Int) [⟨2,true,_,_⟩,⟨3,true,_,_⟩,⟨4,true,_,_⟩,⟨5,true,_,_⟩,⟨6,true,_,_⟩,⟨7,true,_,_⟩,⟨32,true,_,_⟩,⟨33,true,_,_⟩,⟨34,true,_,_⟩,⟨40,true,_,_⟩,⟨41,true,_,_⟩] [⟨2,_,_⟩,⟨3,_,_⟩,⟨4,_,_⟩] (fun (k,o2,c)=>[⟨8,true,[],kI c⟩,⟨42,true,[],kI (k:Int)⟩]) (fun (k,o2,c)=>[⟨30,[],cArr false 3 eI o2 ((digN a.natAbs).length+(digN b.natAbs).length)⟩]) (fun (k,o2,c)=>k≤(digN b.natAbs).length∧MuS (digN a.natAbs) (digN b.natAbs) o2 i k c) (fun (k,o2,c)=>MuS (digN a.natAbs) (digN b.natAbs) o2 i (digN b.natAbs).length c) (fun (k,o2,c)=>(digN b.natAbs).length-k) ((0,o,0)) ⟨by omega,hR.row⟩ (Ent.mk (.i rfl zi<|.i rfl zi<|zk) (.a zi zi<|zk) rfl) ?_ ?_
    ·rintro ⟨k,o2,c⟩ ⟨hk,hS⟩
     refine jn ?_
     have hn:=fun (h:k<(digN b.natAbs).length)=>hS.n (digN_dg _) (digN_dg _) zo h
     have hc0:=hS.c0
     refine jx6 ?_; refine jq ?_ ?_
     ·intro h9
      refine jx15 ?_
      obtain ⟨n1,n2,n3,n4⟩:=hn zo
      refine jx16 ?_
      obtain ⟨hq1,hq2,hq3⟩:=td8 (nth o2 (i+k)+nth (digN a.natAbs) i*nth (digN b.natAbs) k+c)
      refine jx5 ?_; refine tO (ok_rem rfl uu rfl uu (fun _=>zo)) rfl rfl ?_; refine jx1 ?_; refine tO (ok_quo rfl uu rfl uu (fun _=>zo)) rfl rfl ?_; refine jx10 ?_
      exact End.lp ((k+1,o2.set (i+k) ((nth o2 (i+k)+nth (digN a.natAbs) i*nth (digN b.natAbs) k+c)%100000000),(nth o2 (i+k)+nth (digN a.natAbs) i*nth (digN b.natAbs) k+c)/100000000)) ⟨by omega,hS.next (digN_dg _) (digN_dg _) zo zo⟩ (by show (digN b.natAbs).length-(k+1)<(digN b.natAbs).length-k; omega) (Ent.mk (.i rfl (by rw[Int.tdiv_eq_ediv_of_nonneg zo])<|.i rfl zi<|zk) (.a (by rw[Int.tmod_eq_emod_of_nonneg zo]) zi<|zk) rfl)
     ·intro h9
      replace h9:=Int.not_lt.1 h9
      refine jx4 ?_
      exact End.cut ((k,o2,c)) (by obtain rfl:k=(digN b.natAbs).length:=zo; exact hS) (Ent.mk (.i rfl zi<|.i rfl zi<|zk) (.a zi zi<|zk) rfl)
    ·rintro ⟨k,o2,c⟩ hS
     refine je ?_
     have hc0:=hS.c0
     refine jx18 ?_
     exact End.lp ((i+1,o2.set (i+(digN b.natAbs).length) c)) ⟨by omega,hS.done zo⟩ (by show (digN a.natAbs).length-(i+1)<(digN a.natAbs).length-i; omega) (Ent.mk (.o rfl zi rfl<|.i rfl zi<|zk) (.a rfl zi<|zk) rfl)
   ·intro h5
    replace h5:=Int.not_lt.1 h5
    refine jx4 ?_
    exact End.cut ((i,o)) (by obtain rfl:i=(digN a.natAbs).length:=zo; exact ⟨rfl,hR⟩) (Ent.mk (.o rfl zi rfl<|.i rfl zi<|zk) (.a zi zi<|zk) rfl)
  ·rintro ⟨i,o⟩ ⟨rfl,hR⟩
   refine je ?_; refine jx2 ?_; refine Tr.draw 7 mixed (by kernel_rfl) ?_; refine jx4 ?_; refine rO (ok_neqB rfl uu rfl uu) rfl rfl ?_; refine jx1 ?_; refine rO (ok_lendV (n:=1) (fun ad cap=>ct_trimmedV o ad cap) rfl uu (fun _=>⟨by omega,by simp only[lenMax]; omega,by have:=trim_len (xs:=o); rw[hR.len] at this; exact this⟩)) rfl rfl ?_; refine jx1 ?_; refine tO (ok_build (fun hp=>.cons rfl rfl rfl<|.cons rfl rfl rfl<|.nil)) rfl rfl ?_; refine jx4 ?_; exact Rts.resNC (fn:=Tryz.f161) (u:=30) rfl rfl (fun _ _ _ h=>cArr_take (by have:=trim_len (xs:=o); rw[hR.len,mul_dig hR] at this; exact this) (by rw[← mul_dig hR,trim_pre]) h) (aggQ rfl (by rw[mul_dig hR])) inferInstance

end Go.Fl

/- Integers: long division, as its contract wants it. Plain Lean, no program in sight. -/
namespace Go.Fl
theorem Nm.top {xs:List Int} (h:Nm xs) (h0:0<xs.length):0<nth xs (xs.length-1):=by
 have hne:xs≠[]:=List.length_pos_iff.1 h0
 have h3:=h.last hne
 have h4:nth xs (xs.length-1)=xs.getLast hne:=by
  rw[List.getLast_eq_getElem]
  exact nth_of_get? (List.getElem?_eq_getElem _)
 rw[h4]
 have:=h.dg _ (List.getLast_mem hne)
 omega
def lgF (n:Nat):Int:=(100000000:Int).tdiv (nth (digN n) (((digN n).length:Int)-1).toNat+1)
theorem lgD {n:Nat} (h:0<(digN n).length):0<nth (digN n) (((digN n).length:Int)-1).toNat∧nth (digN n) (((digN n).length:Int)-1).toNat<100000000:=by
 have e:(((digN n).length:Int)-1).toNat=(digN n).length-1:=by omega
 rw[e]
 exact ⟨(digN_nm n).top h,((digN_dg n).at zo).2⟩
theorem tdq {a b:Int} (ha:0≤a) (hb:0<b):0≤a.tdiv b∧a.tdiv b≤a:=by
 rw[Int.tdiv_eq_ediv_of_nonneg ha]
 exact ⟨Int.ediv_nonneg ha zo,Int.ediv_le_self _ ha⟩
theorem lgF_rng {n:Nat} (h:0<(digN n).length):0<lgF n∧lgF n≤50000000:=by
 have h1:=lgD h
 unfold lgF
 generalize nth (digN n) (((digN n).length:Int)-1).toNat=t at *
 rw[Int.tdiv_eq_ediv_of_nonneg zo]
 refine ⟨Int.le_ediv_of_mul_le zo zo,Int.le_of_lt_add_one (Int.ediv_lt_of_lt_mul zo zo)⟩
def gsI (x y z:Int):Int:=if 99999999<(x*100000000+y).tdiv z then 99999999 else (x*100000000+y).tdiv z
theorem gsI_rng {x y z:Int} (hx:0≤x) (hy:0≤y) (hz:0<z):0≤gsI x y z∧gsI x y z≤99999999:=by
 have:=tdq (a:=x*100000000+y) zo hz
 unfold gsI
 split<;>omega
theorem gsI_ge {T x y z:Int} (hx:0≤x) (hy:0≤y) (h:T≤(if 99999999<(x*100000000+y)/z then 99999999 else (x*100000000+y)/z)):T≤gsI x y z:=by
 unfold gsI
 rw[Int.tdiv_eq_ediv_of_nonneg zo]
 exact h
theorem LgW.bd {u0 u:List Int} {j n:Nat} {T V g:Int} (h:LgW u0 j n T V u g) (hl:j+n<u0.length) (hT:T=val (u0.drop j)) (h0:0≤T) (hV:0<V) (hVn:V<BP n):-100000000<nth u (j+n):=by
 obtain ⟨lo,l0,l1,e⟩:=h.top hl
 have ht:=h.t hl hT
 have hg:=h.g1
 have h1:g*V≤99999999*V:=Int.mul_le_mul_of_nonneg_right hg zo
 refine Classical.byContradiction fun hh=>?_
 have h2:BP n*nth u (j+n)≤BP n*(-100000000):=Int.mul_le_mul_of_nonneg_left zo (Int.le_of_lt (BP_pos n))
 omega
theorem lg_x {m n:Nat} {F:Int} (hF:0<F) (h:n≤m):((n:Int)*F).natAbs≤((m:Int)*F).natAbs∧n≤((n:Int)*F).natAbs:=by
 have h1:(n:Int)*F≤m*F:=Int.mul_le_mul_of_nonneg_right zo zo
 have h2:(n:Int)*1≤n*F:=Int.mul_le_mul_of_nonneg_left zo zo
 omega
theorem lg_fin {m n x y nn:Nat} {F:Int} {u out:List Int} (hF:0<F) (hx:x=((m:Int)*F).natAbs) (hy:y=((n:Int)*F).natAbs) (hn:0<n) (h:LgR (x:Int) (val (digN y)) nn u out 0) :
  trimL out=digN (m/n)∧digN (val (trimL u)/F).toNat=digN (m%n)∧Dg (trimL u):=by
 have e1:(x:Int)=F*m:=by rw[hx,Int.mul_comm,Int.natAbs_of_nonneg (Int.mul_nonneg zo zo)]
 have e2:(y:Int)=F*n:=by rw[hy,Int.mul_comm,Int.natAbs_of_nonneg (Int.mul_nonneg zo zo)]
 have h0:(0:Int)<F*n:=Int.mul_pos hF zo
 obtain ⟨h1,h2,h3,h4⟩:=h.fin (by rw[digN_val]; omega)
 rw[digN_val,e1,e2] at h1 h2
 rw[Int.mul_ediv_mul_of_pos _ _ hF] at h1
 rw[Int.mul_emod_mul_of_pos _ _ hF] at h2
 refine ⟨trim_dig h3 (by rw[h1]; rfl),?_,(trim_nm h4).dg⟩
 rw[trim_val,h2,Int.mul_ediv_cancel_left _ zo]
 congr 1
theorem wh_nat {n:Nat}:(false,digN n)=wh (n:Int):=wh_pos rfl rfl
theorem dl_small {F:Int} (h0:0≤F) (h:F<100000000):dl F≤1:=dl_le (by simp[BP]; omega)
end Go.Fl

/- Contracts: integers of the package field (long division). -/
namespace Go.Fl
open Go Go.Proofs
open TrL renaming op→tO
open RunD renaming op→rO
set_option maxRecDepth 100000

set_option maxHeartbeats 4000000 in
theorem ct_flong (m n:Nat) (h2:2≤(digN n).length) (hnm:n≤m) (hm:(digN m).length≤900000):Ct Tryz.prog 219 [kRd (eL eI) (digN m),kRd (eL eI) (digN n)] (kTup [kRd (eL eI) (digN (m/n)),kRd (eL eI) (digN (m%n))]):=by
 have h00:([0,0]:List Int).length=2:=rfl
 obtain ⟨F,hF⟩:∃F,F=lgF n:=⟨_,rfl⟩
 obtain ⟨x,hx⟩:∃x:Nat,x=((m:Int)*F).natAbs:=⟨_,rfl⟩
 obtain ⟨y,hy⟩:∃y:Nat,y=((n:Int)*F).natAbs:=⟨_,rfl⟩
 obtain ⟨lu,hlu⟩:∃k,k=(digN x).length:=⟨_,rfl⟩
 obtain ⟨nn,hnn⟩:∃k,k=(digN y).length:=⟨_,rfl⟩
 have hFr:=lgF_rng (n:=n) zo
 rw[← hF] at hFr
 have hlD:=lgD (n:=n) zo
 have hlx:=lg_x hFr.1 hnm
 have hn0:0<n:=by have:=digN_len0 (n:=n); omega
 have hle:=digN_len_le hnm
 have hny:=digN_len_le (n:=n) (m:=y) zo
 have hyx:=digN_len_le (n:=y) (m:=x) zo
 have hdm:dl (m:Int)=(digN m).length:=rfl
 have hdn:dl (n:Int)=(digN n).length:=rfl
 have hdF:=dl_small (F:=F) zo zo
 have hdx:dl ((m:Int)*F)=lu:=by rw[hlu,hx]; rfl
 have hlb:=dl_mul (m:Int) F
 have hdx2:(digN ((m:Int)*F).natAbs).length=lu:=by rw[hlu,hx]
 have hV0:0<val (digN y):=by rw[digN_val]; omega
 have hVn:val (digN y)<BP nn:=by rw[hnn]; exact (digN_dg y).val1
 have hqF:=tdq (a:=100000000) (b:=nth (digN n) (((digN n).length:Int)-1).toNat+1) zo zo
 refine Ct.mk Tryz.func219 rfl Tryz.ntmps219 rfl (fun w J=>?_); refine jx15 ?_; refine tO (ok_quo rfl uu rfl uu (fun _=>zo)) rfl rfl ?_; refine jx4 ?_; refine Tr.rwI (s:=6) rfl (show _=F from hF.symm) ?_; refine jx2 ?_; refine tO (ok_build (fun hp=>.cons rfl rfl rfl<|.nil)) rfl rfl ?_; refine jx1 ?_; refine jc (ct_fsmall F zo) ?_; refine TrL.new (ok_callN 34 (fun hp=>ct_wtimesN (m:Int) F zo zo zo) (.se rfl uu rfl wh_nat<|.a rfl uu<|.nil)) rfl rfl rfl rfl ?_; refine tO (ok_fieldA Tryz.underlying160 rfl (ft:=22) (off:=1) rfl rfl rfl uu rfl) rfl rfl ?_
 refine TrL.new (ok_bsl eI 36 (fun hp=>.cons rfl<|.cons rfl<|.nil) rfl rfl rfl rfl) rfl rfl rfl rfl ?_; refine TrL.appQ rfl (Nat.zero_add _) rfl rfl (fun _ _=>inferInstance) rfl rfl (by decide) rfl rfl (by have h:([0,0]:List Int).length=2:=rfl; omega) (by have h:([0,0]:List Int).length=2:=rfl; omega) (fun L2 o2 hq2=>?_); refine jl ?_
 obtain rfl:o2=0:=by omega
 obtain rfl:L2=digN ((m:Int)*F).natAbs++[0,0]:=by simpa using hq2
 refine jx4 ?_
 rw[← hx,← hlu]
 refine jx2 ?_; refine tO (ok_build (fun hp=>.cons rfl rfl rfl<|.nil)) rfl rfl ?_; refine jx1 ?_; refine jc (ct_fsmall F zo) ?_; refine tO (ok_call (fun hp=>ct_wtimes (n:Int) F zo zo) (.se rfl uu rfl wh_nat<|.a rfl uu<|.nil)) rfl rfl ?_; refine tO (ok_fieldP Tryz.underlying160 rfl (ft:=22) (off:=1) rfl rfl rfl uu rfl rfl) rfl rfl ?_; refine jx4 ?_
 rw[← hy]
 refine jx7 ?_
 rw[← hnn]
 refine jx2 ?_; refine tO (ok_lenQ rfl uu) rfl rfl ?_; refine jx2 ?_; refine tO (ok_max rfl uu rfl uu) rfl rfl ?_; refine TrL.new (ok_make eI 51 rfl uu rfl uu rfl rfl (fun _=>zo)) rfl rfl rfl rfl ?_; refine jx7 ?_; refine tO (ok_lenO rfl uu) rfl rfl ?_; refine jx4 ?_
 refine Tr.for1 (σ:=Nat×List Int×List Int) [⟨6,true,_,_⟩,⟨8,true,_,_⟩] [] (fun (j,u,out)=>[⟨7,true,[34],kOsl 34 (lu+2)⟩,⟨9,true,[],kI (nn:Int)⟩,⟨10,true,[51],kOsl 51 (lu+2-nn)⟩,⟨11,true,[],kI ((j:Int)-1)⟩]) (fun (j,u,out)=>[⟨34,[],cArr false 3 eI u (lu+2)⟩,⟨51,[],cArr false 3 eI out (lu+2-nn)⟩]) (fun (j,u,out)=>u.length=lu+2∧out.length=lu+2-nn∧LgR (x:Int) (val (digN y)) nn u out j) (fun (j,u,out)=>j=0∧u.length=lu+2∧out.length=lu+2-nn∧LgR (x:Int) (val (digN y)) nn u out 0) (fun (j,u,out)=>j) ((lu+2-nn,digN x++[0,0],List.replicate (lu+2-nn) 0)) ⟨by rw[List.length_append,← hlu]; rfl,by simp,by rw[hlu]; exact LgR.start (x:=(x:Int)) zo (digN_nm y) hnn.symm zo (by show nn≤(digN x).length; omega)⟩ (Ent.mk (.conv rfl rfl (fun g v h=>kOsq_osl zo h) rfl<|.i rfl zi<|.o rfl (by split<;>omega) rfl<|.i rfl (by split<;>omega)<|zk) (.a zi zi<|.a (by congr 1; split<;>omega) (by split<;>omega)<|.nil) rfl) ?_ ?_
 ·rintro ⟨j,u,out⟩ ⟨hul,hol,hR⟩
  refine jn ?_; refine jx7 ?_; refine jq ?_ ?_
  ·intro h7
   obtain ⟨j0,rfl⟩:∃j0,j=j0+1:=⟨j-1,by omega⟩
   have hjo:=hR.jo
   obtain ⟨hg1,hg2,hvt,hz,hvlt⟩:=hR.gs (digN_nm y) hnn.symm zo
   have hT0:0≤val (u.drop j0):=Dg.val0 fun z hz=>hR.dg z (List.mem_of_mem_drop hz)
   have e1:((j0:Int)+nn-1).toNat=j0+nn-1:=by omega
   have e2:((nn:Int)-1).toNat=nn-1:=by omega
   have hu1:=hR.dg.at (i:=j0+nn) zo
   have hu2:=hR.dg.at (i:=((j0:Int)+nn-1).toNat) zo
   have hvt2:0<nth (digN y) ((nn:Int)-1).toNat:=by rw[e2]; exact hvt
   have hq0:=tdq (a:=nth u (j0+nn)*100000000+nth u ((j0:Int)+nn-1).toNat) zo hvt2
   refine Tr.rwI (s:=11) rfl (show (((j0+1:Nat):Int)-1)=(j0:Int) by omega) ?_; refine jx5 ?_; refine Tr.draw 20 mixed (by kernel_rfl) ?_; refine jx21 ?_; refine tO (ok_quo rfl uu rfl uu (fun _=>zo)) rfl rfl ?_; refine tO (ok_min rfl uu rfl uu) rfl rfl ?_; refine jx4 ?_
   obtain ⟨g,hg⟩:∃g,g=gsI (nth u (j0+nn)) (nth u ((j0:Int)+nn-1).toNat) (nth (digN y) ((nn:Int)-1).toNat):=⟨_,rfl⟩
   refine Tr.rwI (s:=12) rfl (show _=g from hg.symm) ?_
   have hgr:=gsI_rng hu1.1 hu2.1 hvt2
   rw[← hg] at hgr
   have hgT:val (u.drop j0)/val (digN y)≤g:=by rw[hg]; exact gsI_ge hu1.1 hu2.1 (by rw[e1,e2]; exact hg1)
   refine jx11 ?_
   refine Tr.for1 (σ:=Nat×List Int×Int) [⟨6,true,_,_⟩,⟨7,true,_,_⟩,⟨8,true,_,_⟩,⟨9,true,_,_⟩,⟨10,true,_,_⟩,⟨11,true,_,_⟩,⟨12,true,_,_⟩,⟨81,true,_,_⟩] [⟨51,_,_⟩] (fun (i,u1,c)=>[⟨13,true,[],kI c⟩,⟨82,true,[],kI (i:Int)⟩]) (fun (i,u1,c)=>[⟨34,[],cArr false 3 eI u1 (lu+2)⟩]) (fun (i,u1,c)=>i≤nn∧LgS u (digN y) j0 (-g) u1 i c) (fun (i,u1,c)=>LgS u (digN y) j0 (-g) u1 nn c) (fun (i,u1,c)=>nn-i) ((0,u,0)) ⟨by omega,LgS.start⟩ (Ent.mk (.i rfl zi<|.i rfl zi<|zk) (.a zi zi<|zk) rfl) ?_ ?_
   ·rintro ⟨i,u1,c⟩ ⟨hi,hS⟩
    refine jn ?_
    have hsl:=hS.len
    have hcb:=hS.cb
    refine jx6 ?_; refine jq ?_ ?_
    ·intro h12
     refine jx11 ?_; refine Tr.draw 20 mixed (by kernel_rfl) ?_
     obtain ⟨s1,s2⟩:=hS.next (digN_dg y) ⟨zo,zo⟩ zo zo (hR.dg.at zo)
     have hb:=LgS.b (digN_dg y) (s:=-g) ⟨zo,zo⟩ (show i<(digN y).length by omega)
     have hng:-g*nth (digN y) i=-(g*nth (digN y) i):=Int.neg_mul _ _
     have hu3:nth u1 (i+j0)=nth u (j0+i):=by rw[Nat.add_comm]; exact s1
     have hu4:=hR.dg.at (i:=j0+i) zo
     have hval:nth u1 (i+j0)-g*nth (digN y) i+c=nth u (j0+i)+-g*nth (digN y) i+c:=by omega
     refine jx15 ?_; refine rO (ok_call (fun hp=>ct_floored _ zo) (.a rfl uu<|.nil)) rfl rfl ?_; refine jx25 ?_
     exact End.lp ((i+1,u1.set (j0+i) ((nth u (j0+i)+-g*nth (digN y) i+c)%100000000),(nth u (j0+i)+-g*nth (digN y) i+c)/100000000)) ⟨by omega,s2⟩ (by show nn-(i+1)<nn-i; omega) (Ent.mk (.i rfl (by rw[hval])<|.i rfl zi<|zk) (.a (by rw[hval,Nat.add_comm i j0]) zi<|zk) rfl)
    ·intro h12
     replace h12:=Int.not_lt.1 h12
     refine jx4 ?_
     exact End.cut ((i,u1,c)) (by obtain rfl:i=nn:=zo; exact hS) (Ent.mk (.i rfl zi<|.i rfl zi<|zk) (.a zi zi<|zk) rfl)
   ·rintro ⟨i,u1,c⟩ hS
    refine je ?_
    have hsl:=hS.len
    have hcb:=hS.cb
    have hst:=hS.same (j0+nn) (.inr (Nat.le_refl _))
    refine jx15 ?_
    refine Tr.for (σ:=List Int×Int) [⟨6,true,_,_⟩,⟨7,true,_,_⟩,⟨8,true,_,_⟩,⟨9,true,_,_⟩,⟨10,true,_,_⟩,⟨11,true,_,_⟩] [⟨51,_,_⟩] (fun (u2,g2)=>[⟨12,true,[],kI g2⟩]) (fun (u2,g2)=>[⟨34,[],cArr false 3 eI u2 (lu+2)⟩]) (fun (u2,g2)=>LgW u j0 nn (val (u.drop j0)) (val (digN y)) u2 g2) (fun (u2,g2)=>LgW u j0 nn (val (u.drop j0)) (val (digN y)) u2 g2∧0≤nth u2 (j0+nn)) (fun (u2,g2)=>g2.toNat) ((u1.set (j0+nn) (nth u1 (j0+nn)+c),g)) (LgW.mk' hR zo hS hnn.symm rfl hz hgT hgr.2) (Ent.mk (.i rfl zi<|zk) (.a zi zi<|zk) rfl) ?_ ?_
    ·rintro ⟨u2,g2⟩ hW
     refine jn ?_
     have hwl:=hW.len
     have hwg:=hW.g1
     have hwb:=hW.bd zo rfl hT0 hV0 hVn
     refine jx12 ?_; refine jq ?_ ?_
     ·intro h18
      have hlt:=hW.lt zo rfl h18 hV0
      refine jx22 ?_
      refine Tr.for1 (σ:=Nat×List Int×Int) [⟨6,true,_,_⟩,⟨7,true,_,_⟩,⟨8,true,_,_⟩,⟨9,true,_,_⟩,⟨10,true,_,_⟩,⟨11,true,_,_⟩,⟨12,true,_,_⟩,⟨130,true,_,_⟩] [⟨51,_,_⟩] (fun (i,u3,c3)=>[⟨13,true,[],kI c3⟩,⟨131,true,[],kI (i:Int)⟩]) (fun (i,u3,c3)=>[⟨34,[],cArr false 3 eI u3 (lu+2)⟩]) (fun (i,u3,c3)=>i≤nn∧LgS u2 (digN y) j0 1 u3 i c3) (fun (i,u3,c3)=>LgS u2 (digN y) j0 1 u3 nn c3) (fun (i,u3,c3)=>nn-i) ((0,u2,0)) ⟨by omega,LgS.start⟩ (Ent.mk (.i rfl zi<|.i rfl zi<|zk) (.a zi zi<|zk) rfl) ?_ ?_
      ·rintro ⟨i,u3,c3⟩ ⟨hi,hS3⟩
       refine jn ?_
       have hsl3:=hS3.len
       have hcb3:=hS3.cb
       refine jx6 ?_; refine jq ?_ ?_
       ·intro h22
        refine jx11 ?_; refine Tr.draw 18 mixed (by kernel_rfl) ?_
        have hu4:=hW.dg (j0+i) zo zo
        obtain ⟨t1,t2⟩:=hS3.next (digN_dg y) ⟨zo,zo⟩ zo zo hu4
        have hvd:=(digN_dg y).at (i:=i) zo
        have hu3:nth u3 (i+j0)=nth u2 (j0+i):=by rw[Nat.add_comm]; exact t1
        have hval3:nth u3 (i+j0)+nth (digN y) i+c3=nth u2 (j0+i)+1*nth (digN y) i+c3:=by omega
        refine jx13 ?_; refine rO (ok_call (fun hp=>ct_floored _ zo) (.a rfl uu<|.nil)) rfl rfl ?_; refine jx25 ?_
        exact End.lp ((i+1,u3.set (j0+i) ((nth u2 (j0+i)+1*nth (digN y) i+c3)%100000000),(nth u2 (j0+i)+1*nth (digN y) i+c3)/100000000)) ⟨by omega,t2⟩ (by show nn-(i+1)<nn-i; omega) (Ent.mk (.i rfl (by rw[hval3])<|.i rfl zi<|zk) (.a (by rw[hval3,Nat.add_comm i j0]) zi<|zk) rfl)
       ·intro h22
        replace h22:=Int.not_lt.1 h22
        refine jx4 ?_
        exact End.cut ((i,u3,c3)) (by obtain rfl:i=nn:=zo; exact hS3) (Ent.mk (.i rfl zi<|.i rfl zi<|zk) (.a zi zi<|zk) rfl)
      ·rintro ⟨i,u3,c3⟩ hS3
       refine je ?_
       have hsl3:=hS3.len
       have hcb3:=hS3.cb
       have hst3:=hS3.same (j0+nn) (.inr (Nat.le_refl _))
       refine jx14 ?_
       exact End.lp ((u3.set (j0+nn) (nth u3 (j0+nn)+c3),g2-1)) (hW.back zo rfl h18 hV0 hS3 hnn.symm rfl) (by show (g2-1).toNat<g2.toNat; omega) (Ent.mk (.i rfl zi<|zk) (.a zi zi<|zk) rfl)
     ·intro h18
      replace h18:=Int.not_lt.1 h18
      refine jx4 ?_
      exact End.cut ((u2,g2)) ⟨hW,by omega⟩ (Ent.mk (.i rfl zi<|zk) (.a zi zi<|zk) rfl)
    ·rintro ⟨u2,g2⟩ ⟨hW,hW0⟩
     refine jn ?_
     have hwl:=hW.len
     have hwg:=hW.g1
     refine jx14 ?_
     exact End.lp ((j0,u2,out.set j0 g2)) ⟨by rw[hW.len]; exact hul,by rw[List.length_set]; exact hol,hR.next hW zo zo hV0 hVn⟩ (by show j0<j0+1; omega) (Ent.mk (.o rfl zi rfl<|.i rfl zi<|.o rfl zi rfl<|.i rfl zi<|zk) (.a zi zi<|.a zi zi<|.nil) rfl)
  ·intro h7
   replace h7:=Int.not_le.1 h7
   refine jx4 ?_
   exact End.cut ((j,u,out)) (by obtain rfl:j=0:=zo; exact ⟨rfl,hul,hol,hR⟩) (Ent.mk (.o rfl zi rfl<|.i rfl zi<|.o rfl zi rfl<|.i rfl zi<|zk) (.a zi zi<|.a zi zi<|.nil) rfl)
 ·rintro ⟨_,u,out⟩ ⟨rfl,hul,hol,hR⟩
  refine je ?_
  have hfin:=lg_fin hFr.1 hx hy hn0 hR
  refine jx4 ?_; refine tO (ok_lendV (n:=1) (fun ad cap=>ct_trimmedV u ad cap) rfl uu (fun _=>⟨by omega,by simp only[lenMax]; omega,by have:=trim_len (xs:=u); omega⟩)) rfl rfl ?_; refine TrL.frzQ 34 [174] ⟨rfl,trivial⟩ ⟨by have:=trim_len (xs:=u); omega,by simp only[lenMax]; omega⟩ rfl ?_; refine jl ?_; refine jx1 ?_; refine jc (ct_short (u.take (trimL u).length) F (by rw[trim_pre]; exact hfin.2.2) (by have:=trim_len (xs:=u); rw[List.length_take]; omega) zo) ?_; refine jx10 ?_; refine TrL.frz 51 [10,179] ⟨rfl,rfl,trivial⟩ (by simp only[lenMax]; omega) rfl ?_
  refine jl ?_; refine tO (ok_call (fun hp=>ct_trimmed _) (.a rfl uu<|.nil)) rfl rfl ?_; refine jx6 ?_; exact Rts.res (fn:=Tryz.f219) (ts:=[4,5]) rfl rfl (.r rfl hfin.1<|.r rfl (by rw[trim_pre]; exact hfin.2.1)<|.nil)

end Go.Fl

/- Integers: quotient and rest with signs. Plain Lean, no program in sight. -/
namespace Go.Fl
theorem ovr {a b q r:Int} (hb:b≠0) (h:a=b*q+r) (h0:0≤r) (h1:r<b.natAbs):a/b=q∧a%b=r:=by
 rcases Int.lt_or_gt_of_ne hb with hn | hp
 ·have h2:=(Int.ediv_emod_unique (a:=a) (b:=-b) (q:=-q) (r:=r) zo).2 ⟨by rw[Int.neg_mul_neg]; omega,h0,by omega⟩
  rw[Int.ediv_neg,Int.emod_neg] at h2
  exact ⟨by omega,h2.2⟩
 ·exact (Int.ediv_emod_unique hp).2 ⟨by omega,h0,by omega⟩
abbrev sgd (a b:Int):Prop:=decide (a<0)≠decide (b<0)
theorem wh_sgn {a b z:Int} {Q:Nat} (hz:z=if sgd a b then -(Q:Int) else Q):(decide ((0:Int)<((digN Q).length:Nat))&&decide (decide (a<0)≠decide (b<0)),digN Q)=wh z:=by
 have hl:=digN_len0 (n:=Q)
 by_cases h:sgd a b
 ·rw[if_pos h] at hz
  refine wh_mk ?_ (by rw[hz]; congr 1; omega)
  have h2:decide (decide (a<0)≠decide (b<0))=true:=decide_eq_true h
  rw[h2,Bool.and_true,decide_eq_decide]
  omega
 ·rw[if_neg h] at hz
  refine wh_mk ?_ (by rw[hz]; congr 1)
  have h2:decide (decide (a<0)≠decide (b<0))=false:=decide_eq_false h
  rw[h2,Bool.and_false]
  exact (decide_eq_false zo).symm
section
variable {a b:Int}
theorem nat_qr:(a.natAbs:Int)=b.natAbs*((a.natAbs/b.natAbs:Nat):Int)+((a.natAbs%b.natAbs:Nat):Int):=by
 have:=Nat.div_add_mod a.natAbs b.natAbs
 rw[← Int.natCast_mul,← Int.natCast_add,this]
theorem sgd_iff:sgd a b↔((a<0∧¬b<0)∨(¬a<0∧b<0)):=by
 unfold sgd
 by_cases h1:a<0<;>by_cases h2:b<0<;>simp[h1,h2]
theorem over_A (hb:b≠0) (h:¬(a<0∧0<a.natAbs%b.natAbs)):a/b=(if sgd a b then -((a.natAbs/b.natAbs:Nat):Int) else ((a.natAbs/b.natAbs:Nat):Int))∧a%b=((a.natAbs%b.natAbs:Nat):Int):=by
 have e:=nat_qr (a:=a) (b:=b)
 have hlt:a.natAbs%b.natAbs<b.natAbs:=Nat.mod_lt _ zo
 generalize hq:((a.natAbs/b.natAbs:Nat):Int)=q at *
 refine ovr hb ?_ zo zo
 have hB:(b.natAbs:Int)=if b<0 then -b else b:=by split<;>omega
 have hA:(a.natAbs:Int)=if a<0 then -a else a:=by split<;>omega
 by_cases h1:a<0<;>by_cases h2:b<0
 ·rw[if_pos h1] at hA; rw[if_pos h2] at hB
  rw[if_neg (by rw[sgd_iff]; omega)]
  rw[hA,hB,Int.neg_mul] at e; omega
 ·rw[if_pos h1] at hA; rw[if_neg h2] at hB
  rw[if_pos (by rw[sgd_iff]; omega)]
  rw[hA,hB] at e; rw[Int.mul_neg]; omega
 ·rw[if_neg h1] at hA; rw[if_pos h2] at hB
  rw[if_pos (by rw[sgd_iff]; omega)]
  rw[hA,hB,Int.neg_mul] at e; rw[Int.mul_neg]; omega
 ·rw[if_neg h1] at hA; rw[if_neg h2] at hB
  rw[if_neg (by rw[sgd_iff]; omega)]
  rw[hA,hB] at e; omega
theorem over_B (hb:b≠0) (ha:a<0) (hr:0<a.natAbs%b.natAbs):a/b=(if sgd a b then -((a.natAbs/b.natAbs+1:Nat):Int) else ((a.natAbs/b.natAbs+1:Nat):Int))∧a%b=(b.natAbs:Int)+-((a.natAbs%b.natAbs:Nat):Int):=by
 have e:=nat_qr (a:=a) (b:=b)
 have hlt:a.natAbs%b.natAbs<b.natAbs:=Nat.mod_lt _ zo
 rw[Int.natCast_add]
 generalize hq:((a.natAbs/b.natAbs:Nat):Int)=q at *
 refine ovr hb ?_ zo zo
 have hB:(b.natAbs:Int)=if b<0 then -b else b:=by split<;>omega
 have hA:(a.natAbs:Int)=-a:=by omega
 by_cases h2:b<0
 ·rw[if_pos h2] at hB
  rw[if_neg (by rw[sgd_iff]; omega)]
  rw[hA,hB,Int.neg_mul] at e; rw[Int.mul_add]; omega
 ·rw[if_neg h2] at hB
  rw[if_pos (by rw[sgd_iff]; omega)]
  rw[hA,hB] at e; rw[Int.mul_neg,Int.mul_add]; omega
end
theorem one_dig {n:Nat} (h:(digN n).length=1):nth (digN n) 0=n:=by
 have hv:=digN_val n
 match hd:digN n,h with
 | [x],_=>rw[hd] at hv; simpa [val,nth] using hv
theorem sh_dig {m n:Nat} (h:(digN n).length=1):digN (val (digN m)/nth (digN n) 0).toNat=digN (m/n)∧val (digN m)%nth (digN n) 0=((m%n:Nat):Int):=by
 rw[one_dig h,digN_val]
 exact ⟨by congr 1,by rw[Int.natCast_emod]⟩
theorem dl_mod {x y:Int} (hy:y≠0):dl (x%y)≤dl y:=digN_len_le (by have:=Int.emod_nonneg x hy; have:=Int.emod_lt x hy; omega)
theorem cmpZ_neg {x y:Int} (h:cmpZ x y<0):x<y:=by unfold cmpZ at h; split at h<;>(try split at h)<;>omega
theorem cmpZ_nn {x y:Int} (h:0≤cmpZ x y):y≤x:=by unfold cmpZ at h; split at h<;>(try split at h)<;>omega
theorem val_bd:∀{xs:List Int},InI xs→-(10000000000000000000*BP xs.length-10000000000000000000)≤val xs∧val xs≤10000000000000000000*BP xs.length-10000000000000000000
 | [],_=>by simp[val,BP]
 | x::xs,h=>by
  have h1:=h 0 (by simp)
  have ih:=val_bd (xs:=xs) fun i hi=>h (i+1) (by simpa using hi)
  have e:nth (x::xs) 0=x:=rfl
  rw[e] at h1
  rw[val,List.length_cons,BP_succ]
  omega
theorem dl_val {xs:List Int} (h:InI xs):dl (val xs)≤xs.length+3:=by
 refine dl_le ?_
 have h1:=val_bd h
 have h2:=BP_pos xs.length
 rw[BP_succ,BP_succ,BP_succ]
 omega
theorem dl_int {n:Int} (h:-9223372036854775808≤n∧n≤9223372036854775807):dl n≤3:=dl_le (by simp[BP]; omega)
end Go.Fl

/- Contracts: integers of the package field (quotient and rest, what the package offers). -/
namespace Go.Fl
open Go Go.Proofs
open TrL renaming op→tO
open RunD renaming op→rO
set_option maxRecDepth 100000

set_option maxHeartbeats 2000000 in
theorem ct_wover (a b:Int) (hb0:b≠0) (ha:dl a≤800000) (hb:dl b≤800000):Ct Tryz.prog 206 [kRd eW (wh a),kRd eW (wh b)] (kTup [kRd eW (wh (a/b)),kRd eW (wh (a%b))]):=by
 have hal:(digN a.natAbs).length=dl a:=rfl
 have hbl:(digN b.natAbs).length=dl b:=rfl
 have hbp:=(dl_pos (z:=b)).2 hb0
 have hlt:a.natAbs%b.natAbs<b.natAbs:=Nat.mod_lt _ zo
 have hql:=digN_len_le (m:=a.natAbs) (n:=a.natAbs/b.natAbs) (Nat.div_le_self _ _)
 have hrl:=digN_len_le (m:=b.natAbs) (n:=a.natAbs%b.natAbs) zo
 have hrz:=digN_len0 (n:=a.natAbs%b.natAbs)
 have hdq:dl ((a.natAbs/b.natAbs:Nat):Int)=(digN (a.natAbs/b.natAbs)).length:=rfl
 have hdr:dl ((a.natAbs%b.natAbs:Nat):Int)=(digN (a.natAbs%b.natAbs)).length:=rfl
 have hdb:dl (b.natAbs:Int)=dl b:=rfl
 have hd1:=dl_small (F:=1) zo zo
 refine Ct.mk Tryz.func206 rfl Tryz.ntmps206 rfl (fun w J=>?_); refine jx2 ?_; refine jb 2 rfl ?_; refine jb 3 rfl ?_; refine ja 4 ?_; refine ja 5 ?_; refine jx2 ?_; refine Tr.meet2 (σ:=Unit) [⟨2,true,_,_⟩,⟨3,true,_,_⟩,⟨4,true,_,_⟩,⟨5,true,_,_⟩] [⟨2,_,_⟩,⟨3,_,_⟩] (zk) (zk) (fun _=>[]) (fun _=>[⟨4,[],cBlk [kB false,kRd (eL eI) (digN (a.natAbs/b.natAbs))]⟩,⟨5,[],cBlk [kB false,kRd (eL eI) (digN (a.natAbs%b.natAbs))]⟩]) (fun _=>True) ?_ ?_
 ·skip
  refine jx7 ?_; refine jc (ct_sizes a.natAbs b.natAbs zo zo) ?_; refine jx4 ?_; refine Tr.cnd rfl ?_ ?_
  ·intro h2
   try simp only[decide_eq_true_eq] at h2
   have hc:=cmpZ_neg h2
   refine jx7 ?_
   exact End.cut (()) zi (Ent.mk (zk) (.conv (fun _ _ _ h=>cBlk_n rfl (by rw[Nat.div_eq_of_lt zo]; rfl) h) rfl<|.conv (fun _ _ _ h=>cBlk_e rfl (by rw[Nat.mod_eq_of_lt zo]) h) rfl<|zk) rfl)
  ·intro h2
   try simp only[decide_eq_false_iff_not,Int.not_lt] at h2
   have hc:=cmpZ_nn h2
   refine jx9 ?_; refine Tr.cnd rfl ?_ ?_
   ·intro h4
    try simp only[decide_eq_true_eq] at h4
    refine jx6 ?_; refine Tr.drawS 11 4 mixed (by kernel_rfl) ?_
    have hd0:=(digN_dg b.natAbs).at (i:=0) zo
    have h1d:=one_dig (n:=b.natAbs) zo
    refine RunS.opA (ok_fldO rfl uu) (by kernel_rfl) rfl rfl ?_; refine RunS.opA (ok_ldB rfl uu rfl) (by kernel_rfl) rfl rfl ?_; refine RunS.opA (ok_fldO rfl uu) (by kernel_rfl) rfl rfl ?_; refine RunS.opA (ok_ldB rfl uu rfl) (by kernel_rfl) rfl rfl ?_
    first | refine RunS.opA (ok_idxN rfl uu rfl uu rfl (fun _=>zo)) (by kernel_rfl) rfl rfl ?_ | refine RunS.opA (ok_idxP rfl uu rfl uu rfl (fun _=>zo)) (by kernel_rfl) rfl rfl ?_
    refine RunS.opA (ok_ldP rfl uu rfl) (by kernel_rfl) rfl rfl ?_; refine RunS.opA (ok_call (fun hp=>ct_short (digN a.natAbs) (nth (digN b.natAbs) 0) (digN_dg _) zo zo) (.a rfl uu<|.a rfl uu<|.nil)) (by kernel_rfl) rfl rfl ?_; refine RunS.opA (ok_move rfl uu) (by kernel_rfl) rfl rfl ?_; refine RunS.opA (ok_ext rfl uu rfl) (by kernel_rfl) rfl rfl ?_; refine RunS.op (ok_ext rfl uu rfl) rfl rfl ?_; refine RunS.opA (ok_fldO rfl uu) (by kernel_rfl) rfl rfl ?_; refine RunS.z (st_B rfl rfl rfl) rfl rfl rfl ?_; refine jx4 ?_
    have sh:=sh_dig (m:=a.natAbs) (n:=b.natAbs) zo
    refine jx1 ?_; refine tO (ok_call (fun hp=>ct_fsmall _ (by rw[sh.2]; omega)) (.a rfl uu<|.nil)) rfl rfl ?_; refine jx3 ?_
    exact End.cut (()) zi (Ent.mk (zk) (.conv (fun _ _ _ h=>cBlk_e rfl sh.1 h) rfl<|.conv (fun _ _ _ h=>cBlk_e (by rw[sh.2]; exact decide_eq_false zo) (by rw[sh.2]; rfl) h) rfl<|zk) rfl)
   ·intro h4
    try simp only[decide_eq_false_iff_not] at h4
    refine jx5 ?_; refine jc (ct_flong a.natAbs b.natAbs zo zo zo) ?_; refine jx9 ?_
    exact End.cut (()) zi (Ent.mk (zk) (.conv (fun _ _ _ h=>cBlk_e rfl rfl h) rfl<|.conv (fun _ _ _ h=>cBlk_e rfl rfl h) rfl<|zk) rfl)
 ·intro _ hM
  refine jn ?_; refine jx13 ?_; refine Tr.cnd rfl ?_ ?_
  ·intro h8
   try simp only[decide_eq_true_eq,Bool.and_eq_true] at h8
   have hrp:0<a.natAbs%b.natAbs:=by omega
   obtain ⟨o1,o2⟩:=over_B hb0 h8.1 hrp
   refine jx1 ?_; refine Tr.draw 2 mixed (by kernel_rfl) ?_; refine jx1 ?_; refine jd (ct_fsmall 1 zo) ?_; refine jx1 ?_; refine tO (ok_call (fun hp=>ct_wplus ((a.natAbs/b.natAbs:Nat):Int) 1 zo zo) (.se rfl uu rfl wh_nat<|.a rfl uu<|.nil)) rfl rfl ?_; refine jx3 ?_; refine Tr.draw 5 mixed (by kernel_rfl) ?_; refine jx2 ?_; refine rO (ok_build (fun hp=>.cons rfl rfl rfl<|.nil)) rfl rfl ?_; refine jx1 ?_; refine rO (ok_call (fun hp=>ct_wminus ((a.natAbs%b.natAbs:Nat):Int)) (.se rfl uu rfl wh_nat<|.nil)) rfl rfl ?_; refine jx1 ?_; refine tO (ok_call (fun hp=>ct_wplus (b.natAbs:Int) (-((a.natAbs%b.natAbs:Nat):Int)) zo (by rw[dl_neg]; omega)) (.se rfl uu rfl wh_nat<|.a rfl uu<|.nil)) rfl rfl ?_
   refine jx14 ?_; refine TrL.gd rfl rfl rfl (ok_neqB rfl id rfl id) rfl rfl ?_; refine jx6 ?_; refine Tr.drawS 2 4 mixed (by kernel_rfl) ?_; refine RunS.opA (ok_ldBS rfl uu) (by kernel_rfl) rfl rfl ?_; refine RunS.op (ok_ldBS rfl uu) rfl rfl ?_; refine RunS.z (st_B rfl rfl rfl) rfl rfl rfl ?_; refine jx4 ?_; exact Rts.resC2 (fn:=Tryz.f206) rfl rfl rfl (aggRd rfl (wh_sgn o1)) (aggRd rfl (by rw[o2]; rfl))
  ·intro h8
   try simp only[decide_eq_true_eq,decide_eq_false_iff_not,Bool.and_eq_false_imp,Int.not_lt] at h8
   obtain ⟨o1,o2⟩:=over_A hb0 (fun hh=>by have:=h8 hh.1; omega)
   refine jx13 ?_; refine TrL.gd rfl rfl rfl (ok_neqB rfl id rfl id) rfl rfl ?_; refine jx6 ?_; refine Tr.drawS 2 4 mixed (by kernel_rfl) ?_; refine RunS.opA (ok_ldBS rfl uu) (by kernel_rfl) rfl rfl ?_; refine RunS.op (ok_ldBS rfl uu) rfl rfl ?_; refine RunS.z (st_B rfl rfl rfl) rfl rfl rfl ?_; refine jx4 ?_; exact Rts.resC2 (fn:=Tryz.f206) rfl rfl rfl (aggRd rfl (wh_sgn o1)) (aggRd rfl (by rw[o2]; exact wh_nat))

theorem ct_fcompare (a b:Int) (ha:dl a≤800000) (hb:dl b≤800000):Ct Tryz.prog 203 [kRd eW (wh a),kRd eW (wh b)] (kI (cmpZ a b)):=by
 refine Ct.mk Tryz.func203 rfl Tryz.ntmps203 rfl (fun w J=>?_); refine jx2 ?_; refine jb 2 rfl ?_; refine jb 3 rfl ?_; refine jx4 ?_; refine Tr.draw 3 mixed (by kernel_rfl) ?_; refine jx2 ?_; refine jd (ct_wminus b) ?_; refine jx1 ?_; refine jc (ct_wplus a (-b) zo (by rw[dl_neg]; omega)) ?_; refine jc (ct_wsign (a+-b)) ?_; refine jx4 ?_; exact Rts.res1 (fn:=Tryz.f203) rfl (.i rfl (by rw[← Int.sub_eq_add_neg]; exact cmpZ_sub)<|.nil)

end Go.Fl

/- Integers: what the contracts of the reference's integers lean on. Plain Lean, no program in sight. -/
namespace Go.Fl
def sgL (xs:List Int) (neg:Bool):List Int:=if neg=true then (trimL xs).map (fun x=>-x) else trimL xs
theorem sgL_t {xs:List Int} {neg:Bool} (h:neg=true):ngT (trimL xs) (trimL xs).length=sgL xs neg:=by unfold sgL; rw[if_pos h,ngT_all]
theorem sgL_f {xs:List Int} {neg:Bool} (h:neg=false):trimL xs=sgL xs neg:=by unfold sgL; rw[if_neg (by rw[h]; simp)]
theorem trim_nmz {xs:List Int} (h:Nm xs):trimL xs=xs:=by
 have h0:=h.dg.val0
 have e:val xs=((val xs).toNat:Nat):=by omega
 rw[trim_dig h.dg e]
 exact (digN_of h e).symm
theorem trim_map:∀{xs:List Int},trimL (xs.map fun x=>-x)=(trimL xs).map fun x=>-x
 | []=>rfl
 | x::xs=>by
  rw[List.map_cons,trimL,trimL,trim_map]
  by_cases h:trimL xs=[]∧x=0
  ·rw[if_pos h,if_pos ⟨by rw[h.1]; rfl,by omega⟩]; rfl
  ·rw[if_neg h,if_neg (fun hh=>h ⟨by simpa using hh.1,by omega⟩)]; rfl
theorem trim_lst (z:Int):trimL (lstZ z)=lstZ z:=by
 unfold lstZ
 split
 ·rw[trim_map,trim_nmz (digN_nm _)]
 ·exact trim_nmz (digN_nm _)
theorem lst_dig {z:Int} (h:0≤z):lstZ z=digN z.toNat:=by unfold lstZ; rw[if_neg zo]; congr 1; omega
theorem lst_nat (n:Nat):lstZ (n:Int)=digN n:=lst_dig zo
theorem lst_nm {z:Int} (h:0≤z):Nm (lstZ z):=by rw[lst_dig h]; exact digN_nm _
theorem map_negneg:∀(xs:List Int),(xs.map fun x=>-x).map (fun x=>-x)=xs
 | []=>rfl
 | x::xs=>by rw[List.map_cons,List.map_cons,map_negneg,Int.neg_neg]
theorem sg_neg (z:Int):sgL (lstZ z) true=lstZ (-z):=by
 unfold sgL
 rw[if_pos rfl,trim_lst]
 by_cases h:z=0
 ·subst h; rfl
 ·unfold lstZ
  by_cases h1:z<0
  ·rw[if_pos h1,if_neg zo,map_negneg,Int.natAbs_neg]
  ·rw[if_neg h1,if_pos zo,Int.natAbs_neg]
theorem sg_size (z:Int):sgL (lstZ z) (decide (z<0))=digN z.natAbs:=by
 unfold sgL
 rw[trim_lst]
 unfold lstZ
 by_cases h:z<0
 ·rw[if_pos h,if_pos (by simpa using h),map_negneg]
 ·rw[if_neg h,if_neg (by simpa using h)]
theorem lst_len0 {z:Int}:(lstZ z).length=0↔z=0:=by rw[lst_len]; exact dl_zero
theorem lst_last {z:Int} (h:0<(lstZ z).length):nth (lstZ z) (((lstZ z).length:Int)-1).toNat<0↔z<0:=by
 have e:(((lstZ z).length:Int)-1).toNat=(lstZ z).length-1:=by omega
 rw[e]
 rw[lst_len] at h ⊢
 have ht:=(digN_nm z.natAbs).top (by exact h)
 unfold lstZ
 by_cases h1:z<0
 ·rw[if_pos h1,nth_map (show dl z-1<(digN z.natAbs).length by unfold dl at h ⊢; omega)]
  unfold dl
  omega
 ·rw[if_neg h1]
  unfold dl
  omega
theorem neg_of {z:Int} (h:0<(lstZ z).length→(nth (lstZ z) (((lstZ z).length:Int)-1).toNat<0↔z<0)):(decide ((0:Int)<((lstZ z).length:Nat))&&decide (nth (lstZ z) (((lstZ z).length:Int)-1).toNat<0))=decide (z<0):=by
 by_cases h0:0<(lstZ z).length
 ·rw[decide_eq_true (show (0:Int)<((lstZ z).length:Nat) by omega),Bool.true_and,decide_eq_decide]
  exact h h0
 ·have:z=0:=lst_len0.1 zo
  subst this
  rfl
theorem nm_pos {xs:List Int} {i:Nat} (hi:xs.length≤i) (h:(rdS xs i).2=0):trimL (rdS xs i).1=lstZ (val xs):=by
 have h1:=rd_pos hi h
 have h2:=rdS_pos hi h
 have h0:=(rdS_dg (xs:=xs) (i:=i)).val0
 rw[lst_dig zo]
 exact trim_dig rdS_dg zo
theorem nm_neg {xs ds:List Int} (h:(true,trimL ds)=wh (val xs)):sgL ds true=lstZ (val xs):=by
 unfold wh at h
 have h1:true=decide (val xs<0):=congrArg Prod.fst h
 have h2:trimL ds=digN (val xs).natAbs:=congrArg Prod.snd h
 unfold sgL lstZ
 rw[if_pos rfl,if_pos (of_decide_eq_true h1.symm),h2]
theorem cm_tab {ds:List Int} {k:Nat} (h:k=ds.length):tab k (cmD ds)=cmL ds k:=by
 subst h
 unfold cmL
 exact tab_congr fun j hj=>by rw[if_pos hj]
theorem nm_neg1 {xs:List Int} {i:Nat} (hi:xs.length≤i) (h:(rdS xs i).2=-1) (hb:bw (rdS xs i).1 i≠0):sgL (tab i (cmD (rdS xs i).1)) true=lstZ (val xs):=by
 rw[cm_tab rdS_len.symm]; exact nm_neg (rd_neg1 hi h hb)
theorem nm_neg0 {xs:List Int} {i:Nat} (hi:xs.length≤i) (h:(rdS xs i).2=-1) (hb:bw (rdS xs i).1 i=0):sgL (tab i (cmD (rdS xs i).1)++[1]) true=lstZ (val xs):=by
 rw[cm_tab rdS_len.symm]; exact nm_neg (rd_neg0 hi h hb)
def adX (xs ys:List Int) (n:Nat):List Int:=tab n fun i=>xAt xs i+xAt ys i
theorem val_tab2 {f g:Nat→Int}:∀{n:Nat},val (tab n fun i=>f i+g i)=val (tab n f)+val (tab n g)
 | 0=>rfl
 | n+1=>by
  rw[tab_succ,tab_succ,tab_succ,val_snoc,val_snoc,val_snoc,val_tab2,tab_len,tab_len,tab_len,Int.mul_add]; omega
theorem val_tabx {xs:List Int}:∀{n:Nat},val (tab n (xAt xs))=val (xs.take n)
 | 0=>rfl
 | n+1=>by rw[tab_succ,val_snoc,tab_len,val_tabx,take_val]
theorem adX_val {xs ys:List Int} {n:Nat} (h1:xs.length≤n) (h2:ys.length≤n):val (adX xs ys n)=val xs+val ys:=by
 unfold adX
 rw[val_tab2,val_tabx,val_tabx,List.take_of_length_le h1,List.take_of_length_le h2]
theorem adX_in {x y:Int} {n:Nat}:InI (adX (lstZ x) (lstZ y) n):=fun i hi=>by
 unfold adX at hi ⊢
 rw[tab_len] at hi
 rw[nth_tab hi]
 have b:∀z:Int,∀j,-100000000<xAt (lstZ z) j∧xAt (lstZ z) j<100000000:=fun z j=>by
  unfold xAt
  split
  ·rename_i hj
   rw[lst_len] at hj
   have:=(digN_dg z.natAbs).at (i:=j) hj
   unfold lstZ
   split
   ·rw[nth_map hj]; omega
   ·omega
  ·omega
 have:=b x i; have:=b y i
 omega
theorem lst_bd {z:Int} {j:Nat} (hj:j<(lstZ z).length):-100000000<nth (lstZ z) j∧nth (lstZ z) j<100000000:=by
 rw[lst_len] at hj
 have:=(digN_dg z.natAbs).at (i:=j) hj
 unfold lstZ
 split
 ·rw[nth_map hj]; omega
 ·omega
theorem mul_bd {x y:Int} (hx:-100000000<x∧x<100000000) (hy:-100000000<y∧y<100000000):-10000000000000000≤x*y∧x*y≤10000000000000000:=by
 have h:(x*y).natAbs≤100000000*100000000:=by rw[Int.natAbs_mul]; exact Nat.mul_le_mul zo zo
 omega
def mrow (xs ys:List Int) (i k:Nat):List Int:=List.replicate i 0++tab k fun j=>nth xs i*nth ys j
theorem mrow_len {xs ys:List Int} {i k:Nat}:(mrow xs ys i k).length=i+k:=by unfold mrow; rw[List.length_append,List.length_replicate,tab_len]
theorem mrow_succ {xs ys:List Int} {i k:Nat}:mrow xs ys i k++[nth xs i*nth ys k]=mrow xs ys i (k+1):=by unfold mrow; rw[tab_succ,List.append_assoc]
theorem mrow_zero {xs ys:List Int} {i:Nat}:List.replicate i 0=mrow xs ys i 0:=by unfold mrow; simp[tab]
theorem val_mulc {c:Int} {ys:List Int}:∀{k:Nat},k≤ys.length→val (tab k fun j=>c*nth ys j)=c*val (ys.take k)
 | 0,_=>by simp[tab,val]
 | k+1,h=>by rw[tab_succ,val_snoc,tab_len,val_mulc zo,take_val,xAt_in zo,Int.mul_add,Int.mul_left_comm]
theorem mrow_val {xs ys:List Int} {i:Nat}:val (mrow xs ys i ys.length)=BP i*(nth xs i*val ys):=by
 unfold mrow
 rw[val_append,val_rep,List.length_replicate,val_mulc (Nat.le_refl _),List.take_length]; omega
theorem mrow_in {x y:Int} {i k:Nat} (hi:i<(lstZ x).length) (hk:k≤(lstZ y).length):InI (mrow (lstZ x) (lstZ y) i k):=fun j hj=>by
 rw[mrow_len] at hj
 have hm:nth (mrow (lstZ x) (lstZ y) i k) j∈mrow (lstZ x) (lstZ y) i k:=nth_mem (by rw[mrow_len]; exact hj)
 unfold mrow at hm
 rcases List.mem_append.1 hm with h | h
 ·have e:=List.eq_of_mem_replicate h
  unfold mrow; omega
 ·obtain ⟨q,hq,e⟩:=mem_nth h
  unfold mrow
  rw[tab_len] at hq
  rw[nth_tab hq] at e
  have:=mul_bd (lst_bd hi) (lst_bd (z:=y) (j:=q) zo)
  omega
theorem mul_step {xs ys:List Int} {i:Nat} (h:i<xs.length):val (xs.take i)*val ys+val (mrow xs ys i ys.length)=val (xs.take (i+1))*val ys:=by
 rw[mrow_val,take_val,xAt_in h,Int.add_mul,Int.mul_assoc]
theorem less_len {a b:List Int} (ha:Nm a) (hb:Nm b) (h:a.length≠b.length):decide ((a.length:Int)<(b.length:Nat))=decide (val a<val b):=by
 rw[decide_eq_decide]
 rcases Nat.lt_or_gt_of_ne h with h1 | h1
 ·have:=cmp_len ha hb h1
  omega
 ·have:=cmp_len hb ha h1
  omega
theorem less_at {a b:List Int} (ha:Dg a) (hb:Dg b) (hl:a.length=b.length) {i:Nat} (hi:i<a.length) (h:∀j,i<j→j<a.length→nth a j=nth b j) (hne:nth a i≠nth b i):decide (nth a i<nth b i)=decide (val a<val b):=by
 rw[decide_eq_decide]
 rcases Int.lt_or_gt_of_ne hne with h1 | h1
 ·have:=cmp_at ha hb hl hi h h1
  omega
 ·have:=cmp_at hb ha hl.symm zo (fun j h2 h3=>(h j h2 zo).symm) h1
  omega
theorem less_all {a b:List Int} (hl:a.length=b.length) (h:∀j,0≤j→j<a.length→nth a j=nth b j):false=decide (val a<val b):=by
 rw[cmp_eq hl fun j hj=>h j (Nat.zero_le _) hj]
 exact (decide_eq_false (Int.lt_irrefl _)).symm
theorem dv_trim {r x:Int} (hr:0≤r) (hx:0≤x∧x<100000000):trimL (x::digN r.toNat)=digN (r*100000000+x).toNat:=by
 refine trim_dig (fun y hy=>?_) ?_
 ·rcases List.mem_cons.1 hy with rfl | hy
  ·exact hx
  ·exact digN_dg _ y hy
 ·rw[val,digN_val]; omega
theorem dv_dl {T n:Int} (_:0<n):(T-n*(T/n))=T%n:=by have:=Int.mul_ediv_add_emod T n; omega
theorem dv_low {T n m:Int} (hn:0<n) (h:¬T<n*m):m≤T/n:=Int.le_ediv_of_mul_le hn (by rw[Int.mul_comm]; omega)
theorem dv_high {T n m:Int} (hn:0<n) (h:T<n*m):T/n≤m-1:=by have:=Int.ediv_lt_of_lt_mul hn (show T<m*n by rw[Int.mul_comm]; exact h); omega
def SmI (xs:List Int):Prop:=∀x∈xs,-100000000<x∧x<100000000
theorem Dg.sm {xs:List Int} (h:Dg xs):SmI xs:=fun x hx=>by have:=h x hx; omega
theorem lst_sm (z:Int):SmI (lstZ z):=fun x hx=>by
 obtain ⟨j,hj,rfl⟩:=mem_nth hx
 exact lst_bd hj
theorem cm_dg {ds:List Int} (h:Dg ds) {k:Nat} (hk:k=ds.length):Dg (tab k (cmD ds)):=fun x hx=>by
 obtain ⟨j,hj,rfl⟩:=mem_nth hx
 rw[tab_len] at hj
 rw[nth_tab hj]; exact cmD_rng h zo
theorem sgL_end {xs:List Int} {neg:Bool} {i:Nat} (hi:i≤(trimL xs).length) (hg:0<i→neg=true) (h:i<(trimL xs).length→neg=false):ngT (trimL xs) i=sgL xs neg:=by
 cases hn:neg with
 | true =>
  have e:i=(trimL xs).length:=by
   rcases Nat.lt_or_ge i (trimL xs).length with h1 | h1
   ·rw[h h1] at hn; cases hn
   ·omega
  rw[e]; exact sgL_t rfl
 | false =>
  have e:i=0:=by
   rcases Nat.eq_zero_or_pos i with h1 | h1
   ·exact h1
   ·rw[hg h1] at hn; cases hn
  rw[e,← ngT_zero]; exact sgL_f rfl
theorem InI.take {xs:List Int} (h:InI xs) (n:Nat):InI (xs.take n):=fun j hj=>by
 rw[List.length_take] at hj
 rw[nth_take zo]; exact h j zo
theorem dv_q {m n:Nat} {o:List Int} {R:Int} {i:Nat} (h:ShS (digN m) o (n:Int) (i+1) R) (hi:i<(digN m).length):0≤R*100000000+nth (digN m) i∧0≤(R*100000000+nth (digN m) i)/n∧(R*100000000+nth (digN m) i)/n<100000000:=by
 have h1:=h.q (digN_dg m) hi
 have h2:=(digN_dg m).at hi
 have h3:=h.r0
 exact ⟨by omega,h1.1,h1.2.1⟩
theorem dv_fin {m n:Nat} {o:List Int} {R:Int} (h:ShS (digN m) o (n:Int) 0 R):trimL o=digN (m/n)∧digN R.toNat=digN (m%n):=by
 have h1:=h.fin
 rw[digN_val] at h1
 refine ⟨h1.1,?_⟩
 rw[h1.2]
 congr 1
theorem dv_dlT {T:Int} {n:Nat} (h:(T/n)<100000000) (hn:0<n) (h0:0≤T):dl T≤dl (n:Int)+1:=by
 refine dl_le ?_
 have h1:=dl_lt (n:Int)
 have h2:=Int.lt_mul_of_ediv_lt (show (0:Int)<n by omega) h
 rw[BP_succ]
 have:(T.natAbs:Int)=T:=by omega
 omega
theorem dv_dlR {R:Int} {n:Nat} (h:0≤R∧R<n):dl R≤dl (n:Int):=digN_len_le zo
theorem dlN {z:Int} (h:0≤z):(digN z.toNat).length=dl z:=by unfold dl; congr 2; omega
theorem gcd_step {x y:Nat}:Nat.gcd y (x%y)=Nat.gcd x y:=by rw[Nat.gcd_comm,← Nat.gcd_rec,Nat.gcd_comm]
theorem in1 {x:Int} (h:-9223372036854775808≤x∧x≤9223372036854775807):InI [x]:=fun j hj=>by
 have e:j=0:=by simpa using hj
 subst e
 exact h
theorem dlq1 {q:Nat}:(lstZ (val (lstZ (-val (digN q)))-val [1])).length≤dl (q:Int)+2:=by
 rw[lst_len,lst_val,val_one,digN_val,Int.sub_eq_add_neg]
 have h1:=dl_add (-(q:Int)) (-1)
 rw[dl_neg] at h1
 have h2:dl (-1)≤1:=dl_small (F:=1) zo zo
 omega
theorem dlq2 {q:Nat}:(lstZ (-val (digN q))).length=dl (q:Int):=by rw[lst_len,digN_val,dl_neg]
end Go.Fl

/- Contracts: integers of the reference of chapter 1. -/
namespace Go.Fl
open Go Go.Proofs
open TrL renaming op→tO
open RunD renaming op→rO
set_option maxRecDepth 100000

theorem ct_rsplit (n:Int) (hn:-9223372036854775808≤n∧n≤9223372036854775807):Ct Tryz.prog 174 [kI n] (kTup [kI (n/100000000),kI (n%100000000)]):=by
 obtain ⟨hq1,hq2,hq3⟩:=td8 n
 refine Ct.mk Tryz.func174 rfl Tryz.ntmps174 rfl (fun w J=>?_); refine jx9 ?_; refine tO (ok_quo rfl uu rfl uu (fun _=>zo)) rfl rfl ?_; refine jx1 ?_; refine tO (ok_rem rfl uu rfl uu (fun _=>zo)) rfl rfl ?_; refine jx11 ?_; refine jq ?_ ?_
 ·intro h2
  refine jx12 ?_; exact Rts.res (fn:=Tryz.f174) (ts:=[2,3]) rfl rfl (.i rfl zo<|.i rfl zo<|.nil)
 ·intro h2
  replace h2:=Int.not_lt.1 h2
  refine jx11 ?_; exact Rts.res (fn:=Tryz.f174) (ts:=[2,3]) rfl rfl (.i rfl zo<|.i rfl zo<|.nil)

theorem ct_rtrim (xs:List Int) (hn:xs.length≤10000000):Ct Tryz.prog 175 [kRd (eL eI) xs] (kRd (eL eI) (trimL xs)):=by
 refine Ct.mk Tryz.func175 rfl Tryz.ntmps175 rfl (fun w J=>?_); refine jx12 ?_
 refine Tr.for (σ:=Nat) [⟨0,true,_,_⟩] [] (fun m=>[⟨3,true,[],kI (m:Int)⟩]) (fun m=>[]) (fun m=>m≤xs.length∧∀i,m≤i→i<xs.length→nth xs i=0) (fun m=>m≤xs.length∧trimL xs=xs.take m) (fun m=>m) (xs.length) ⟨by omega,fun i h1 h2=>absurd h1 zo⟩ (Ent.mk (.i rfl zi<|zk) (.nil) rfl) ?_ ?_
 ·rintro m ⟨hm,hz⟩
  refine jn ?_
  have e1:0<m→((m:Int)-1).toNat=m-1:=fun h=>by omega
  refine jx8 ?_; refine TrL.gd rfl rfl rfl (ok_sub rfl id rfl uu (fun hp=>by simp at hp; omega)) rfl rfl ?_
  first | refine TrL.gd rfl rfl rfl (ok_idxN rfl id rfl id rfl (fun hp=>by simp at hp; omega)) rfl rfl ?_ | refine TrL.gd rfl rfl rfl (ok_idxP rfl id rfl id rfl (fun hp=>by simp at hp; omega)) rfl rfl ?_
  refine jx5 ?_; refine Tr.cnd rfl ?_ ?_
  ·intro h2
   try simp only[decide_eq_true_eq,Bool.and_eq_true] at h2
   refine jx9 ?_
   exact End.lp (m-1) ⟨by omega,fun i h3 h4=>by (by_cases e:i=m-1; subst e; rw[← e1 zo]; exact h2.2; exact hz i zo h4)⟩ zo (Ent.mk (.i rfl zi<|zk) (.nil) rfl)
  ·intro h2
   try simp only[decide_eq_true_eq,decide_eq_false_iff_not,Bool.and_eq_false_imp] at h2
   refine jx4 ?_
   exact End.cut (m) ⟨hm,trim_take hm hz (by by_cases e:m=0; exact .inl e; exact .inr (by rw[← e1 zo]; exact h2 zo))⟩ (Ent.mk (.i rfl zi<|zk) (.nil) rfl)
 ·rintro m ⟨hm,hE⟩
  refine jn ?_
  have htl:=trim_len (xs:=xs)
  have hz0:([]:List Int).length=0:=rfl
  have htk:(xs.take m).length=m:=by rw[List.length_take]; omega
  have e2:((m:Nat):Int).toNat=m:=rfl
  refine jx2 ?_; refine TrL.new (ok_bsl0 eI 18) rfl rfl rfl rfl ?_; refine jx2 ?_; refine tO (ok_slJh rfl uu rfl uu (fun _=>zo)) rfl rfl ?_; refine TrL.app rfl rfl rfl rfl rfl rfl rfl rfl (by rw[e2]; omega) (by rw[e2]; omega) ?_; refine jl ?_; refine jx3 ?_; refine Tr.frz 18 [2] ⟨rfl,trivial⟩ (by rw[e2]; simp only[lenMax]; omega) rfl ?_; refine jx1 ?_; exact Rts.res1 (fn:=Tryz.f175) rfl (.r rfl (by rw[List.nil_append,hE]; rfl)<|.nil)

theorem ct_rtrimN (xs:List Int) (hn:xs.length≤10000000):CtN Tryz.prog 175 [kRd (eL eI) xs] (fun t=>kOsl t (trimL xs).length) (cArr false 3 eI (trimL xs) (trimL xs).length):=by
 refine CtN.mk Tryz.func175 rfl Tryz.ntmps175 rfl (fun w J=>?_); refine jx12 ?_
 refine Tr.for (σ:=Nat) [⟨0,true,_,_⟩] [] (fun m=>[⟨3,true,[],kI (m:Int)⟩]) (fun m=>[]) (fun m=>m≤xs.length∧∀i,m≤i→i<xs.length→nth xs i=0) (fun m=>m≤xs.length∧trimL xs=xs.take m) (fun m=>m) (xs.length) ⟨by omega,fun i h1 h2=>absurd h1 zo⟩ (Ent.mk (.i rfl zi<|zk) (.nil) rfl) ?_ ?_
 ·rintro m ⟨hm,hz⟩
  refine jn ?_
  have e1:0<m→((m:Int)-1).toNat=m-1:=fun h=>by omega
  refine jx8 ?_; refine TrL.gd rfl rfl rfl (ok_sub rfl id rfl uu (fun hp=>by simp at hp; omega)) rfl rfl ?_
  first | refine TrL.gd rfl rfl rfl (ok_idxN rfl id rfl id rfl (fun hp=>by simp at hp; omega)) rfl rfl ?_ | refine TrL.gd rfl rfl rfl (ok_idxP rfl id rfl id rfl (fun hp=>by simp at hp; omega)) rfl rfl ?_
  refine jx5 ?_; refine Tr.cnd rfl ?_ ?_
  ·intro h2
   try simp only[decide_eq_true_eq,Bool.and_eq_true] at h2
   refine jx9 ?_
   exact End.lp (m-1) ⟨by omega,fun i h3 h4=>by (by_cases e:i=m-1; subst e; rw[← e1 zo]; exact h2.2; exact hz i zo h4)⟩ zo (Ent.mk (.i rfl zi<|zk) (.nil) rfl)
  ·intro h2
   try simp only[decide_eq_true_eq,decide_eq_false_iff_not,Bool.and_eq_false_imp] at h2
   refine jx4 ?_
   exact End.cut (m) ⟨hm,trim_take hm hz (by by_cases e:m=0; exact .inl e; exact .inr (by rw[← e1 zo]; exact h2 zo))⟩ (Ent.mk (.i rfl zi<|zk) (.nil) rfl)
 ·rintro m ⟨hm,hE⟩
  refine jn ?_
  have htl:=trim_len (xs:=xs)
  have hz0:([]:List Int).length=0:=rfl
  have htk:(xs.take m).length=m:=by rw[List.length_take]; omega
  have e2:((m:Nat):Int).toNat=m:=rfl
  refine jx2 ?_; refine TrL.new (ok_bsl0 eI 18) rfl rfl rfl rfl ?_; refine jx2 ?_; refine tO (ok_slJh rfl uu rfl uu (fun _=>zo)) rfl rfl ?_; refine TrL.app rfl rfl rfl rfl rfl rfl rfl rfl (by rw[e2]; omega) (by rw[e2]; omega) ?_; refine jl ?_; refine jx4 ?_; exact Rts.resN (fn:=Tryz.f175) (u:=18) rfl rfl (arr_res (by rw[List.nil_append,hE]; rfl) (by rw[hE,e2]; omega)) (osl_res (by rw[hE,e2]; omega)) inferInstance

theorem ct_rsigned (xs:List Int) (neg:Bool) (hn:xs.length≤10000000) (hx:SmI xs):Ct Tryz.prog 176 [kRd (eL eI) xs,kB neg] (kRd (eL eI) (sgL xs neg)):=by
 have htl:=trim_len (xs:=xs)
 refine Ct.mk Tryz.func176 rfl Tryz.ntmps176 rfl (fun w J=>?_); refine jx8 ?_; refine TrL.new (ok_callN 8 (fun hp=>ct_rtrimN _ zo) (.a rfl uu<|.nil)) rfl rfl rfl rfl ?_; refine jx9 ?_
 refine Tr.for1 (σ:=Nat) [⟨1,true,_,_⟩,⟨5,true,_,_⟩] [] (fun i=>[⟨6,true,[],kI (i:Int)⟩]) (fun i=>[⟨8,[],cArr false 3 eI (ngT (trimL xs) i) (trimL xs).length⟩]) (fun i=>i≤(trimL xs).length∧(0<i→neg=true)) (fun i=>i≤(trimL xs).length∧ngT (trimL xs) i=sgL xs neg) (fun i=>(trimL xs).length-i) (0) ⟨by omega,fun h=>absurd h zo⟩ (Ent.mk (.i rfl zi<|zk) (.a ngT_zero zi<|.nil) rfl) ?_ ?_
 ·rintro i ⟨hi,hg⟩
  refine jn ?_
  have hat:=fun (h:i<(trimL xs).length)=>ngT_at (ds:=trimL xs) (k:=i) h
  have hxi:=fun (h:i<(trimL xs).length)=>hx _ (trim_mem (nth_mem h))
  refine jx5 ?_; refine tO (ok_lenO rfl uu) rfl rfl ?_; refine jx6 ?_; refine Tr.cnd rfl ?_ ?_
  ·intro h3
   try simp only[decide_eq_true_eq,Bool.and_eq_true] at h3
   refine jx11 ?_; refine tO (ok_neg rfl uu (fun _=>zo)) rfl rfl ?_; refine jx10 ?_
   exact End.lp (i+1) ⟨by omega,fun _=>h3.2⟩ zo (Ent.mk (.i rfl zi<|zk) (.a (ngT_succ zo) zi<|.nil) rfl)
  ·intro h3
   try simp only[decide_eq_true_eq,Bool.and_eq_false_imp] at h3
   refine jx4 ?_
   exact End.cut (i) ⟨hi,sgL_end hi hg (fun hh=>h3 zo)⟩ (Ent.mk (.i rfl zi<|zk) (.a zi zi<|.nil) rfl)
 ·rintro i ⟨hi,hE⟩
  refine je ?_; refine jx7 ?_; refine Tr.frz 8 [4] ⟨rfl,trivial⟩ (by simp only[lenMax]; omega) rfl ?_; refine jx1 ?_; exact Rts.res1 (fn:=Tryz.f176) rfl (.r rfl hE<|.nil)

set_option maxHeartbeats 1000000 in
theorem ct_rNormal (xs:List Int) (hx:InI xs) (hn:xs.length≤1000000):Ct Tryz.prog 128 [kRd (eL eI) xs] (kRd (eL eI) (lstZ (val xs))):=by
 have h1l:([1]:List Int).length=1:=rfl
 refine Ct.mk Tryz.func128 rfl Tryz.ntmps128 rfl (fun w J=>?_); refine jx21 ?_; refine Tr.grow (s:=3) rfl rfl 3 rfl 3 eI rfl ?_
 refine Tr.for1 (σ:=Nat) [⟨0,true,_,_⟩] [] (fun i=>[⟨5,true,[],kI (i:Int)⟩,⟨3,true,[3],kOsl 3 i⟩,⟨4,true,[],kI (rdS xs i).2⟩]) (fun i=>[⟨3,[],cArr true 3 eI (rdS xs i).1 i⟩]) (fun i=>i≤xs.length) (fun i=>i=xs.length) (fun i=>xs.length-i) (0) (Nat.zero_le _) (Ent.mk (.i rfl zi<|.o rfl zi rfl<|.i rfl zi<|zk) (.a zi zi<|.nil) rfl) ?_ ?_
 ·intro i hR0
  refine jn ?_
  have hc1:=rdS_c hx (i:=i)
  have hxx:=hx i
  have hs:=rdS_split (xs:=xs) (i:=i)
  have hxi:=fun (h:i<xs.length)=>xAt_in h
  refine jx9 ?_; refine jq ?_ ?_
  ·intro h4
   refine jx10 ?_; refine tO (ok_call (fun hp=>ct_rsplit _ (by have:=hxx zo; omega)) (.a rfl uu<|.nil)) rfl rfl ?_; refine jx12 ?_; refine tO (ok_call (fun hp=>ct_rsplit _ zo) (.a rfl uu<|.nil)) rfl rfl ?_; refine jx11 ?_; refine TrL.new (ok_bsl eI 39 (fun hp=>.cons rfl<|.nil) rfl rfl rfl rfl) rfl rfl rfl rfl ?_; refine jx1 ?_; refine jl ?_; refine jx16 ?_
   exact End.lp (i+1) zi zo (Ent.mk (.i rfl zi<|.o rfl zi rfl<|.i rfl (by rw[← hs.1,hxi zo])<|zk) (.a (by rw[rdS,← hs.2,hxi zo]) zi<|.nil) rfl)
  ·intro h4
   replace h4:=Int.not_lt.1 h4
   refine jx4 ?_
   exact End.cut (i) zo (Ent.mk (.i rfl zi<|.o rfl zi rfl<|.i rfl zi<|zk) (.a zi zi<|.nil) rfl)
 ·rintro _ rfl
  refine je ?_; refine jx1 ?_
  refine Tr.for (σ:=Nat) [] [] (fun i=>[⟨3,true,[3],kOsl 3 i⟩,⟨4,true,[],kI (rdS xs i).2⟩]) (fun i=>[⟨3,[],cArr true 3 eI (rdS xs i).1 i⟩]) (fun i=>xs.length≤i∧(i=xs.length∨(i=xs.length+1∧(rdS xs i).2.natAbs≤2000)∨(i=xs.length+2∧((rdS xs i).2=0∨(rdS xs i).2=-1)))) (fun i=>xs.length≤i∧((rdS xs i).2=0∨(rdS xs i).2=-1)∧i≤xs.length+2) (fun i=>xs.length+2-i) (xs.length) ⟨zo,zo⟩ (Ent.mk (.o rfl zi rfl<|.i rfl zi<|.nil) (.a zi zi<|.nil) rfl) ?_ ?_
  ·rintro i ⟨hi,hm⟩
   refine jn ?_
   have hc1:=rdS_c hx (i:=i)
   have hxo:=xAt_out (xs:=xs) (i:=i) zo
   have hs2:(rdS xs (i+1)).2=(xAt xs i+(rdS xs i).2)/100000000:=rfl
   rw[hxo,Int.zero_add] at hs2
   have hrl:(rdS xs i).1.length=i:=rdS_len
   refine jx11 ?_; refine Tr.cnd rfl ?_ ?_
   ·intro h10
    try simp only[decide_eq_true_eq,Bool.and_eq_true,ne_eq] at h10
    refine jx6 ?_; refine tO (ok_call (fun hp=>ct_rsplit _ zo) (.a rfl uu<|.nil)) rfl rfl ?_; refine jx11 ?_; refine TrL.new (ok_bsl eI 57 (fun hp=>.cons rfl<|.nil) rfl rfl rfl rfl) rfl rfl rfl rfl ?_; refine jx1 ?_; refine jl ?_; refine jx8 ?_
    exact End.lp (i+1) ⟨zo,zo⟩ zo (Ent.mk (.o rfl zi rfl<|.i rfl hs2.symm<|.nil) (.a (by rw[rdS,hxo,Int.zero_add]) zi<|.nil) rfl)
   ·intro h10
    try simp only[decide_eq_true_eq,decide_eq_false_iff_not,Bool.and_eq_false_imp,ne_eq,Classical.not_not] at h10
    refine jx4 ?_
    exact End.cut (i) ⟨hi,by omega,by omega⟩ (Ent.mk (.o rfl zi rfl<|.i rfl zi<|.nil) (.a zi zi<|.nil) rfl)
  ·rintro i ⟨hi,hc,hb⟩
   refine jn ?_
   have hrl:(rdS xs i).1.length=i:=rdS_len
   refine jx7 ?_; refine jq ?_ ?_
   ·intro h14
    refine jx3 ?_; refine TrL.frz 3 [3,62] ⟨rfl,rfl,trivial⟩ (by simp only[lenMax]; omega) rfl ?_; refine jl ?_; refine tO (ok_call (fun hp=>ct_rtrim _ zo) (.a rfl uu<|.nil)) rfl rfl ?_; refine jx5 ?_; exact Rts.res1 (fn:=Tryz.f128) rfl (.r rfl (nm_pos hi h14)<|.nil)
   ·intro h14
    refine jx18 ?_; refine Tr.grow (s:=12) rfl rfl 12 rfl 3 eI rfl ?_
    refine Tr.for1 (σ:=Nat) [⟨3,true,_,_⟩] [⟨3,_,_⟩] (fun k=>[⟨14,true,[],kI (k:Int)⟩,⟨12,true,[12],kOsl 12 k⟩,⟨13,true,[],kI (bw (rdS xs i).1 k)⟩]) (fun k=>[⟨12,[],cArr true 3 eI (tab k (cmD (rdS xs i).1)) k⟩]) (fun k=>k≤i) (fun k=>k=i) (fun k=>i-k) (0) (Nat.zero_le _) (Ent.mk (.i rfl zi<|.o rfl zi rfl<|.i rfl zi<|zk) (.a zi zi<|zk) rfl) ?_ ?_
    ·intro k hR2
     refine jn ?_
     have hl:(rdS xs i).1.length=i:=rdS_len
     have hd:=fun (h:k<i)=>(rdS_dg (xs:=xs) (i:=i)).at (i:=k) zo
     have hb01:=bw_01 (ds:=(rdS xs i).1) (k:=k)
     have hbs:=bw_cm (ds:=(rdS xs i).1) (k:=k)
     refine jx5 ?_; refine tO (ok_lenO rfl uu) rfl rfl ?_; refine jx3 ?_; refine jq ?_ ?_
     ·intro h19
      refine jx10 ?_; refine tO (ok_neg rfl uu (fun _=>zo)) rfl rfl ?_; refine jx17 ?_; refine jq ?_ ?_
      ·intro h23
       refine jx10 ?_; refine TrL.new (ok_bsl eI 83 (fun hp=>.cons rfl<|.nil) rfl rfl rfl rfl) rfl rfl rfl rfl ?_; refine jx1 ?_; refine jl ?_; refine jx9 ?_
       exact End.lp (k+1) zi zo (Ent.mk (.i rfl zi<|.o rfl zi rfl<|.i rfl (by rw[hbs,if_pos h23])<|zk) (.a (by rw[tab_succ]; congr 2; unfold cmD; rw[if_pos h23]) zi<|zk) rfl)
      ·intro h23
       replace h23:=Int.not_lt.1 h23
       refine jx5 ?_; refine TrL.new (ok_bsl eI 83 (fun hp=>.cons rfl<|.nil) rfl rfl rfl rfl) rfl rfl rfl rfl ?_; refine jx1 ?_; refine jl ?_; refine jx9 ?_
       exact End.lp (k+1) zi zo (Ent.mk (.i rfl zi<|.o rfl zi rfl<|.i rfl (by rw[hbs,if_neg zo])<|zk) (.a (by rw[tab_succ]; congr 2; unfold cmD; rw[if_neg zo]) zi<|zk) rfl)
     ·intro h19
      replace h19:=Int.not_lt.1 h19
      refine jx4 ?_
      exact End.cut (k) zo (Ent.mk (.i rfl zi<|.o rfl zi rfl<|.i rfl zi<|zk) (.a zi zi<|zk) rfl)
    ·rintro _ rfl
     refine je ?_; refine jx8 ?_; refine jq ?_ ?_
     ·intro h26
      refine jx2 ?_; refine TrL.new (ok_bsl eI 88 (fun hp=>.cons rfl<|.nil) rfl rfl rfl rfl) rfl rfl rfl rfl ?_; refine jx1 ?_; refine jl ?_; refine jx6 ?_; refine TrL.frz 12 [12,89,90] ⟨rfl,rfl,rfl,trivial⟩ (by simp only[lenMax]; omega) rfl ?_; refine jl ?_
      refine tO (ok_call (fun hp=>ct_rsigned _ true (by first | (rw[tab_len]; omega) | (rw[List.length_append,tab_len]; omega)) (by first | exact (cm_dg rdS_dg rdS_len.symm).sm | exact ((cm_dg rdS_dg rdS_len.symm).snoc zo zo).sm)) (.a rfl uu<|.a rfl uu<|.nil)) rfl rfl ?_
      refine jx4 ?_; exact Rts.res1 (fn:=Tryz.f128) rfl (.r rfl (nm_neg0 hi zo zo)<|.nil)
     ·intro h26
      refine jx5 ?_; refine TrL.frz 12 [12,90] ⟨rfl,rfl,trivial⟩ (by simp only[lenMax]; omega) rfl ?_; refine jl ?_
      refine tO (ok_call (fun hp=>ct_rsigned _ true (by first | (rw[tab_len]; omega) | (rw[List.length_append,tab_len]; omega)) (by first | exact (cm_dg rdS_dg rdS_len.symm).sm | exact ((cm_dg rdS_dg rdS_len.symm).snoc zo zo).sm)) (.a rfl uu<|.a rfl uu<|.nil)) rfl rfl ?_
      refine jx4 ?_; exact Rts.res1 (fn:=Tryz.f128) rfl (.r rfl (nm_neg1 hi zo zo)<|.nil)

end Go.Fl

/- Contracts: integers of the reference of chapter 1 (signs, sums, products). -/
namespace Go.Fl
open Go Go.Proofs
open TrL renaming op→tO
open RunD renaming op→rO
set_option maxRecDepth 100000

theorem ct_rNegative (z:Int):Ct Tryz.prog 129 [kRd (eL eI) (lstZ z)] (kB (decide (z<0))):=by
 refine Ct.mk Tryz.func129 rfl Tryz.ntmps129 rfl (fun w J=>?_); refine Tr.fact (s:=0) rfl (fun _ _ h=>lenB h) (fun hb=>?_); refine jx14 ?_; refine TrL.gd rfl rfl rfl (ok_sub rfl id rfl uu (fun hp=>by simp at hp; omega)) rfl rfl ?_
 first | refine TrL.gd rfl rfl rfl (ok_idxN rfl id rfl id rfl (fun hp=>by simp at hp; omega)) rfl rfl ?_ | refine TrL.gd rfl rfl rfl (ok_idxP rfl id rfl id rfl (fun hp=>by simp at hp; omega)) rfl rfl ?_
 refine jx7 ?_; exact Rts.res1 (fn:=Tryz.f129) rfl (.b rfl (neg_of fun h=>lst_last h)<|.nil)

theorem ct_rsize (z:Int) (hn:dl z≤10000000):Ct Tryz.prog 178 [kRd (eL eI) (lstZ z)] (kRd (eL eI) (digN z.natAbs)):=by
 refine Ct.mk Tryz.func178 rfl Tryz.ntmps178 rfl (fun w J=>?_); refine jx9 ?_; refine tO (ok_call (fun hp=>ct_rNegative _) (.a rfl uu<|.nil)) rfl rfl ?_; refine tO (ok_call (fun hp=>ct_rsigned _ _ (by rw[lst_len]; exact hn) (lst_sm z)) (.a rfl uu<|.a rfl uu<|.nil)) rfl rfl ?_; refine jx4 ?_; exact Rts.res1 (fn:=Tryz.f178) rfl (.r rfl (sg_size z)<|.nil)

theorem ct_rzless (a b:List Int) (ha:Nm a) (hb:Nm b) (hm:a.length≤10000000) (_:b.length≤10000000):Ct Tryz.prog 198 [kRd (eL eI) a,kRd (eL eI) b] (kB (decide (val a<val b))):=by
 refine Ct.mk Tryz.func198 rfl Tryz.ntmps198 rfl (fun w J=>?_); refine jx15 ?_; refine jq ?_ ?_
 ·intro h1
  refine jx12 ?_; exact Rts.res1 (fn:=Tryz.f198) rfl (.b rfl (less_len ha hb zo)<|.nil)
 ·intro h1
  replace h1:=Classical.not_not.1 h1
  refine jx11 ?_
  refine Tr.for1 (σ:=Nat) [⟨0,true,_,_⟩,⟨1,true,_,_⟩] [] (fun i=>[⟨5,true,[],kI ((i:Int)-1)⟩]) (fun i=>[]) (fun i=>i≤a.length∧∀j,i≤j→j<a.length→nth a j=nth b j) (fun i=>i=0∧∀j,i≤j→j<a.length→nth a j=nth b j) (fun i=>i) (a.length) ⟨by omega,fun j h1 h2=>absurd h1 zo⟩ (Ent.mk (.i rfl zi<|zk) (.nil) rfl) ?_ ?_
  ·rintro i ⟨hi,hR⟩
   refine jn ?_
   have e1:((i:Int)-1).toNat=i-1:=by omega
   refine jx7 ?_; refine jq ?_ ?_
   ·intro h4
    refine jx5 ?_; refine Tr.draw 8 mixed (by kernel_rfl) ?_; refine jx12 ?_; refine jq ?_ ?_
    ·intro h6
     refine jx1 ?_; refine Tr.draw 8 mixed (by kernel_rfl) ?_; refine jx20 ?_; exact Rts.res1 (fn:=Tryz.f198) rfl (.b rfl (by rw[e1]; exact less_at ha.dg hb.dg zo zo (fun j h1 h2=>hR j zo h2) (by rw[← e1]; exact h6))<|.nil)
    ·intro h6
     replace h6:=Classical.not_not.1 h6
     refine jx8 ?_
     exact End.lp (i-1) ⟨by omega,fun j h1 h2=>by (by_cases e:j=i-1; subst e; rw[← e1]; exact h6; exact hR j zo h2)⟩ zo (Ent.mk (.i rfl zi<|zk) (.nil) rfl)
   ·intro h4
    replace h4:=Int.not_le.1 h4
    refine jx4 ?_
    exact End.cut (i) ⟨by omega,hR⟩ (Ent.mk (.i rfl zi<|zk) (.nil) rfl)
  ·rintro i ⟨hi,hR⟩
   refine je ?_; refine jx7 ?_; exact Rts.res1 (fn:=Tryz.f198) rfl (.b rfl (by subst hi; exact less_all zo hR)<|.nil)

set_option maxHeartbeats 1000000 in
theorem ct_rAdd (xs ys:List Int) (hx:InI xs) (hy:InI ys) (hn:xs.length≤900000) (hm:ys.length≤900000):Ct Tryz.prog 122 [kRd (eL eI) xs,kRd (eL eI) ys] (kRd (eL eI) (lstZ (val xs+val ys))):=by
 have hdx:=dl_val hx
 have hdy:=dl_val hy
 have hlx:=lst_len (val xs)
 have hly:=lst_len (val ys)
 refine Ct.mk Tryz.func122 rfl Tryz.ntmps122 rfl (fun w J=>?_); refine jx8 ?_; refine tO (ok_call (fun hp=>ct_rNormal _ (by assumption) zo) (.a rfl uu<|.nil)) rfl rfl ?_; refine jx1 ?_; refine tO (ok_call (fun hp=>ct_rNormal _ (by assumption) zo) (.a rfl uu<|.nil)) rfl rfl ?_; refine jx15 ?_; refine Tr.grow (s:=5) rfl rfl 5 rfl 3 eI rfl ?_
 refine Tr.for1 (σ:=Nat) [⟨0,true,_,_⟩,⟨1,true,_,_⟩] [] (fun i=>[⟨5,true,[5],kOsl 5 i⟩,⟨6,true,[],kI (i:Int)⟩]) (fun i=>[⟨5,[],cArr true 3 eI (adX (lstZ (val xs)) (lstZ (val ys)) i) i⟩]) (fun i=>i≤max (lstZ (val xs)).length (lstZ (val ys)).length) (fun i=>i=max (lstZ (val xs)).length (lstZ (val ys)).length) (fun i=>max (lstZ (val xs)).length (lstZ (val ys)).length-i) (0) zo (Ent.mk (.o rfl zi rfl<|.i rfl zi<|zk) (.a zi zi<|.nil) rfl) ?_ ?_
 ·intro i hR0
  refine jn ?_
  have hbx:=fun (h:i<(lstZ (val xs)).length)=>lst_bd h
  have hby:=fun (h:i<(lstZ (val ys)).length)=>lst_bd h
  have hxi:=fun (h:i<(lstZ (val xs)).length)=>xAt_in h
  have hyi:=fun (h:i<(lstZ (val ys)).length)=>xAt_in h
  have hxo:=fun (h:¬i<(lstZ (val xs)).length)=>xAt_out h
  have hyo:=fun (h:¬i<(lstZ (val ys)).length)=>xAt_out h
  refine jx15 ?_; refine Tr.cnd rfl ?_ ?_
  ·intro h4
   try simp only[decide_eq_true_eq,Bool.or_eq_true] at h4
   refine jx9 ?_; refine Tr.meet2 (σ:=Unit) [⟨0,true,_,_⟩,⟨1,true,_,_⟩,⟨5,true,_,_⟩,⟨6,true,_,_⟩] [⟨5,_,_⟩] (zk) (zk) (fun _=>[⟨7,true,[],kI (xAt (lstZ (val xs)) i)⟩]) (fun _=>[]) (fun _=>True) ?_ ?_
   ·skip
    refine jx8 ?_; refine jq ?_ ?_
    ·intro h7
     refine jx7 ?_
     exact End.cut (()) zi (Ent.mk (.i rfl (hxi zo).symm<|zk) (zk) rfl)
    ·intro h7
     replace h7:=Int.not_lt.1 h7
     refine jx1 ?_
     exact End.cut (()) zi (Ent.mk (.i rfl (hxo zo).symm<|zk) (zk) rfl)
   ·intro _ hM
    refine jn ?_; refine Tr.meet2 (σ:=Unit) [⟨0,true,_,_⟩,⟨1,true,_,_⟩,⟨5,true,_,_⟩,⟨6,true,_,_⟩] [⟨5,_,_⟩] (zk) (zk) (fun _=>[⟨7,true,[],kI (xAt (lstZ (val xs)) i+xAt (lstZ (val ys)) i)⟩]) (fun _=>[]) (fun _=>True) ?_ ?_
    ·skip
     refine jx8 ?_; refine jq ?_ ?_
     ·intro h9
      refine jx1 ?_
      have hxb:-100000000<xAt (lstZ (val xs)) i∧xAt (lstZ (val xs)) i<100000000:=by (by_cases hh:i<(lstZ (val xs)).length; rw[hxi hh]; exact hbx hh; rw[hxo hh]; omega)
      refine jx8 ?_
      exact End.cut (()) zi (Ent.mk (.i rfl (by rw[hyi zo])<|zk) (zk) rfl)
     ·intro h9
      replace h9:=Int.not_lt.1 h9
      refine jx1 ?_
      exact End.cut (()) zi (Ent.mk (.i rfl (by rw[hyo zo,Int.add_zero])<|zk) (zk) rfl)
    ·intro _ hM
     refine jn ?_; refine jx3 ?_; refine TrL.new (ok_bsl eI 44 (fun hp=>.cons rfl<|.nil) rfl rfl rfl rfl) rfl rfl rfl rfl ?_; refine jx1 ?_; refine jl ?_; refine jx9 ?_
     exact End.lp (i+1) zo zo (Ent.mk (.o rfl zi rfl<|.i rfl zi<|zk) (.a (by unfold adX; rw[tab_succ]) zi<|.nil) rfl)
  ·intro h4
   try simp only[decide_eq_false_iff_not,Bool.or_eq_false_iff,Int.not_lt] at h4
   refine jx4 ?_
   exact End.cut (i) zo (Ent.mk (.o rfl zi rfl<|.i rfl zi<|zk) (.a zi zi<|.nil) rfl)
 ·rintro _ rfl
  refine je ?_
  have hxl:=Nat.le_max_left (lstZ (val xs)).length (lstZ (val ys)).length
  have hyl:=Nat.le_max_right (lstZ (val xs)).length (lstZ (val ys)).length
  have hal:(adX (lstZ (val xs)) (lstZ (val ys)) (max (lstZ (val xs)).length (lstZ (val ys)).length)).length=max (lstZ (val xs)).length (lstZ (val ys)).length:=tab_len
  refine jx4 ?_; refine TrL.frz 5 [5,46] ⟨rfl,rfl,trivial⟩ (by simp only[lenMax]; omega) rfl ?_; refine jl ?_; refine tO (ok_call (fun hp=>ct_rNormal _ adX_in zo) (.a rfl uu<|.nil)) rfl rfl ?_; refine jx4 ?_; exact Rts.res1 (fn:=Tryz.f122) rfl (.r rfl (by rw[adX_val hxl hyl,lst_val,lst_val])<|.nil)

theorem ct_rNeg (xs:List Int) (hx:InI xs) (hn:xs.length≤1000000):Ct Tryz.prog 136 [kRd (eL eI) xs] (kRd (eL eI) (lstZ (-val xs))):=by
 have hdx:=dl_val hx
 refine Ct.mk Tryz.func136 rfl Tryz.ntmps136 rfl (fun w J=>?_); refine jx8 ?_; refine tO (ok_call (fun hp=>ct_rNormal _ (by assumption) zo) (.a rfl uu<|.nil)) rfl rfl ?_; refine tO (ok_call (fun hp=>ct_rsigned _ true (by rw[lst_len]; omega) (lst_sm _)) (.a rfl uu<|.a rfl uu<|.nil)) rfl rfl ?_; refine jx4 ?_; exact Rts.res1 (fn:=Tryz.f136) rfl (.r rfl (sg_neg _)<|.nil)

theorem ct_rSub (xs ys:List Int) (hx:InI xs) (hy:InI ys) (hn:xs.length≤800000) (hm:ys.length≤800000):Ct Tryz.prog 145 [kRd (eL eI) xs,kRd (eL eI) ys] (kRd (eL eI) (lstZ (val xs-val ys))):=by
 have hdx:=dl_val hx
 have hdy:=dl_val hy
 have hlx:=lst_len (val xs)
 have hly:=lst_len (val ys)
 refine Ct.mk Tryz.func145 rfl Tryz.ntmps145 rfl (fun w J=>?_); refine jx9 ?_; refine tO (ok_call (fun hp=>ct_rNeg _ (by assumption) zo) (.a rfl uu<|.nil)) rfl rfl ?_; refine tO (ok_call (fun hp=>ct_rAdd xs (lstZ (-val ys)) (by assumption) (lst_in _) zo (by rw[lst_len,dl_neg]; omega)) (.a rfl uu<|.a rfl uu<|.nil)) rfl rfl ?_; refine jx4 ?_; exact Rts.res1 (fn:=Tryz.f145) rfl (.r rfl (by rw[lst_val,Int.sub_eq_add_neg])<|.nil)

set_option maxHeartbeats 1000000 in
theorem ct_rMul (xs ys:List Int) (hx:InI xs) (hy:InI ys) (hn:xs.length≤400000) (hm:ys.length≤400000):Ct Tryz.prog 123 [kRd (eL eI) xs,kRd (eL eI) ys] (kRd (eL eI) (lstZ (val xs*val ys))):=by
 have hdx:=dl_val hx
 have hdy:=dl_val hy
 have hlx:=lst_len (val xs)
 have hly:=lst_len (val ys)
 refine Ct.mk Tryz.func123 rfl Tryz.ntmps123 rfl (fun w J=>?_); refine jx8 ?_; refine tO (ok_call (fun hp=>ct_rNormal _ (by assumption) zo) (.a rfl uu<|.nil)) rfl rfl ?_; refine jx1 ?_; refine tO (ok_call (fun hp=>ct_rNormal _ (by assumption) zo) (.a rfl uu<|.nil)) rfl rfl ?_; refine jx15 ?_
 refine Tr.for1 (σ:=Nat) [⟨0,true,_,_⟩,⟨1,true,_,_⟩] [] (fun i=>[⟨6,true,[],kI (i:Int)⟩,⟨5,true,[],kRd (eL eI) (lstZ (val ((lstZ (val xs)).take i)*val (lstZ (val ys))))⟩]) (fun i=>[]) (fun i=>i≤(lstZ (val xs)).length) (fun i=>i=(lstZ (val xs)).length) (fun i=>(lstZ (val xs)).length-i) (0) (Nat.zero_le _) (Ent.mk (.i rfl zi<|.n rfl (by simp[val,lst_zero])<|zk) (.nil) rfl) ?_ ?_
 ·intro i hR0
  refine jn ?_
  have hbx:=fun (h:i<(lstZ (val xs)).length)=>lst_bd h
  have hdo:=dl_mul (val ((lstZ (val xs)).take i)) (val (lstZ (val ys)))
  have hdt:=dl_val ((lst_in (val xs)).take i)
  have htl:((lstZ (val xs)).take i).length≤i:=by rw[List.length_take]; omega
  have hdv:dl (val (lstZ (val ys)))=dl (val ys):=by rw[lst_val]
  refine jx9 ?_; refine jq ?_ ?_
  ·intro h4
   refine jx7 ?_; refine TrL.new (ok_makeN eI 20 rfl uu rfl uu rfl rfl rfl (fun _=>zo)) rfl rfl rfl rfl ?_; refine jx9 ?_
   refine Tr.for1 (σ:=Nat) [⟨0,true,_,_⟩,⟨1,true,_,_⟩,⟨5,true,_,_⟩,⟨6,true,_,_⟩] [] (fun k=>[⟨8,true,[],kI (k:Int)⟩,⟨7,true,[20],kOsl 20 (i+k)⟩]) (fun k=>[⟨20,[],cArr false 3 eI (mrow (lstZ (val xs)) (lstZ (val ys)) i k) (i+k)⟩]) (fun k=>k≤(lstZ (val ys)).length) (fun k=>k=(lstZ (val ys)).length) (fun k=>(lstZ (val ys)).length-k) (0) (Nat.zero_le _) (Ent.mk (.i rfl zi<|.o rfl zi rfl<|zk) (.a mrow_zero zi<|.nil) rfl) ?_ ?_
   ·intro k hR1
    refine jn ?_
    have hby:=fun (h:k<(lstZ (val ys)).length)=>lst_bd h
    have hb:=fun (h:i<(lstZ (val xs)).length) (h2:k<(lstZ (val ys)).length)=>mul_bd (lst_bd h) (lst_bd h2)
    refine jx9 ?_; refine jq ?_ ?_
    ·intro h8
     refine jx4 ?_; refine Tr.draw 11 mixed (by kernel_rfl) ?_
     have hbb:=hb zo zo
     refine jx10 ?_; refine RunD.new (ok_bsl eI 37 (fun hp=>.cons rfl<|.nil) rfl rfl rfl rfl) rfl rfl rfl rfl ?_; refine jx2 ?_; refine jl ?_; refine jx9 ?_
     exact End.lp (k+1) zi zo (Ent.mk (.i rfl zi<|.o rfl zi rfl<|zk) (.a mrow_succ zi<|.nil) rfl)
    ·intro h8
     replace h8:=Int.not_lt.1 h8
     refine jx4 ?_
     exact End.cut (k) zo (Ent.mk (.i rfl zi<|.o rfl zi rfl<|zk) (.a zi zi<|.nil) rfl)
   ·rintro _ rfl
    refine je ?_
    have hrl:=mrow_len (xs:=(lstZ (val xs))) (ys:=(lstZ (val ys))) (i:=i) (k:=(lstZ (val ys)).length)
    refine jx4 ?_; refine TrL.frz 20 [7,40] ⟨rfl,rfl,trivial⟩ (by simp only[lenMax]; omega) rfl ?_; refine jl ?_; refine tO (ok_call (fun hp=>ct_rAdd _ (mrow (lstZ (val xs)) (lstZ (val ys)) i (lstZ (val ys)).length) (lst_in _) (mrow_in zo (Nat.le_refl _)) (by rw[lst_len]; omega) (by rw[hrl]; omega)) (.a rfl uu<|.a rfl uu<|.nil)) rfl rfl ?_; refine jx9 ?_
    exact End.lp (i+1) zi zo (Ent.mk (.i rfl zi<|.r rfl (by rw[lst_val,mul_step zo])<|zk) (.nil) rfl)
  ·intro h4
   replace h4:=Int.not_lt.1 h4
   refine jx4 ?_
   exact End.cut (i) zo (Ent.mk (.i rfl zi<|.r rfl zi<|zk) (.nil) rfl)
 ·rintro _ rfl
  refine je ?_
  have hfin:val ((lstZ (val xs)).take (lstZ (val xs)).length)=val xs:=by rw[List.take_length,lst_val]
  refine jx4 ?_; refine tO (ok_call (fun hp=>ct_rNormal _ (lst_in _) (by rw[lst_len,hfin,lst_val]; have:=dl_mul (val xs) (val ys); omega)) (.a rfl uu<|.nil)) rfl rfl ?_; refine jx4 ?_; exact Rts.res1 (fn:=Tryz.f123) rfl (.r rfl (by rw[hfin,lst_val,lst_val])<|.nil)

theorem ct_rSign (xs:List Int) (hx:InI xs) (hn:xs.length≤1000000):Ct Tryz.prog 75 [kRd (eL eI) xs] (kI (cmpZ (val xs) 0)):=by
 have hl0:=lst_len0 (z:=val xs)
 refine Ct.mk Tryz.func75 rfl Tryz.ntmps75 rfl (fun w J=>?_); refine jx8 ?_; refine tO (ok_call (fun hp=>ct_rNormal _ (by assumption) zo) (.a rfl uu<|.nil)) rfl rfl ?_; refine jx11 ?_; refine jq ?_ ?_
 ·intro h2
  refine jx7 ?_; exact Rts.res1 (fn:=Tryz.f75) rfl (.i rfl (cmpZ_eq zo).symm<|.nil)
 ·intro h2
  refine jx6 ?_; refine tO (ok_call (fun hp=>ct_rNegative _) (.a rfl uu<|.nil)) rfl rfl ?_; refine jx2 ?_; refine Tr.cnd rfl ?_ ?_
  ·intro h4
   refine jx7 ?_; exact Rts.res1 (fn:=Tryz.f75) rfl (.i rfl (cmpZ_lt (of_decide_eq_true h4)).symm<|.nil)
  ·intro h4
   refine jx8 ?_; exact Rts.res1 (fn:=Tryz.f75) rfl (.i rfl (cmpZ_gt (by have:=of_decide_eq_false h4; omega)).symm<|.nil)

end Go.Fl

/- Contracts: the rational field is one. -/
namespace Go.Fl
open Go Go.Proofs
open TrL renaming op→tO
open RunD renaming op→rO
set_option maxRecDepth 100000

abbrev FdT:=List Int×Int×Int×Int
def eFd:Enc FdT:=eC (fun v:FdT=>(v.1,v.2.1,v.2.2.1,v.2.2.2,())) (eP (eL eI) (eP eI (eP eI (eP eI eU))))
instance {v:FdT}:CellsK (kRd eFd v) [kRd (eL eI) (v.1),kI (v.2.1),kI (v.2.2.1),kI (v.2.2.2)]:=inferInstanceAs (CellsK (kRd (eC (fun v:FdT=>(v.1,v.2.1,v.2.2.1,v.2.2.2,())) (eP (eL eI) (eP eI (eP eI (eP eI eU))))) v) _)
instance {v:FdT} {tl:List Know}:EncCells eFd v tl (kRd (eL eI) (v.1)::kI (v.2.1)::kI (v.2.2.1)::kI (v.2.2.2)::tl):=inferInstanceAs (EncCells (eC (fun v:FdT=>(v.1,v.2.1,v.2.2.1,v.2.2.2,())) (eP (eL eI) (eP eI (eP eI (eP eI eU))))) v tl _)
instance {v:FdT}:Norm eFd v (kRd eFd v):=⟨fun h=>h⟩
instance {v:FdT}:FieldP eFd v 0 (eL eI) (v.1) 0:=inferInstanceAs (FieldP (eC (fun v:FdT=>(v.1,v.2.1,v.2.2.1,v.2.2.2,())) (eP (eL eI) (eP eI (eP eI (eP eI eU))))) v 0 _ _ _)
instance {v:FdT}:FieldP eFd v 1 eI (v.2.1) 1:=inferInstanceAs (FieldP (eC (fun v:FdT=>(v.1,v.2.1,v.2.2.1,v.2.2.2,())) (eP (eL eI) (eP eI (eP eI (eP eI eU))))) v 1 _ _ _)
instance {v:FdT}:FieldP eFd v 2 eI (v.2.2.1) 2:=inferInstanceAs (FieldP (eC (fun v:FdT=>(v.1,v.2.1,v.2.2.1,v.2.2.2,())) (eP (eL eI) (eP eI (eP eI (eP eI eU))))) v 2 _ _ _)
instance {v:FdT}:FieldP eFd v 3 eI (v.2.2.2) 3:=inferInstanceAs (FieldP (eC (fun v:FdT=>(v.1,v.2.1,v.2.2.1,v.2.2.2,())) (eP (eL eI) (eP eI (eP eI (eP eI eU))))) v 3 _ _ _)
instance {ks r:List Know} {a:List Int} {b c d:Int} [h:RdOf ks (eP (eL eI) (eP eI (eP eI (eP eI eU)))) (a,b,c,d,()) r]:RdOf ks eFd ((a,b,c,d)) r:=⟨fun h'=>h.imp h'⟩
def ratF:FdT:=([0,1],0,0,1)
def outCf (c:Int):Bool:=!decide (-1000≤c∧c≤1000)
theorem ct_IndexFunc (xs:List Int) (f:FuncId) (q:Int→Bool) [TyFn Tryz.prog f] (hf:∀x,Ct Tryz.prog f [kI x] (kB (q x))):Ct Tryz.prog 149 [kRd (eL eI) xs,kDet (.func (.func f) #[] #[])] (kI (idxF q xs)):=by
 refine Ct.mk Tryz.func149 rfl Tryz.ntmps149 rfl (fun w J=>?_); refine Tr.fact (s:=0) rfl (fun _ _ h=>lenB h) (fun hb=>?_); refine jx13 ?_
 refine Tr.for1 (σ:=Nat) [⟨0,true,_,_⟩,⟨1,true,_,_⟩,⟨7,true,_,_⟩] [] (fun k=>[⟨8,true,[],kI (k:Int)⟩]) (fun k=>[]) (fun k=>k≤xs.length∧∀i,i<k→q (nth xs i)=false) (fun k=>∀i,i<xs.length→q (nth xs i)=false) (fun k=>xs.length-k) (0) ⟨by omega,fun i h=>absurd h zo⟩ (Ent.mk (.i rfl zi<|zk) (.nil) rfl) ?_ ?_
 ·rintro k ⟨hk,hR⟩
  refine jn ?_; refine jx6 ?_; refine jq ?_ ?_
  ·intro h2
   refine jx17 ?_; refine tO (ok_callV rfl uu (fun hp=>hf _) (.a rfl uu<|.nil)) rfl rfl ?_; refine jx2 ?_; refine Tr.cnd rfl ?_ ?_
   ·intro h4
    refine jx13 ?_; exact Rts.res1 (fn:=Tryz.f149) rfl (.i rfl (idxF_at zo hR h4)<|.nil)
   ·intro h4
    refine jx7 ?_
    exact End.lp (k+1) ⟨by omega,fun i hi=>by (rcases Nat.lt_succ_iff_lt_or_eq.1 hi with h | h; exact hR i h; subst h; exact h4)⟩ zo (Ent.mk (.i rfl zi<|zk) (.nil) rfl)
  ·intro h2
   replace h2:=Int.not_lt.1 h2
   refine jx4 ?_
   exact End.cut (k) (fun i hi=>hR i zo) (Ent.mk (.i rfl zi<|zk) (.nil) rfl)
 ·intro k hE
  refine je ?_; refine jx7 ?_; exact Rts.res1 (fn:=Tryz.f149) rfl (.i rfl (idxF_none hE)<|.nil)

theorem ct_ContainsFunc (xs:List Int) (f:FuncId) (q:Int→Bool) [TyFn Tryz.prog f] (hf:∀x,Ct Tryz.prog f [kI x] (kB (q x))):Ct Tryz.prog 99 [kRd (eL eI) xs,kDet (.func (.func f) #[] #[])] (kB (xs.any q)):=by
 refine Ct.mk Tryz.func99 rfl Tryz.ntmps99 rfl (fun w J=>?_); refine jx9 ?_; refine tO (ok_call (fun hp=>ct_IndexFunc _ f q hf) (.a rfl uu<|.a rfl uu<|.nil)) rfl rfl ?_; refine jx5 ?_; exact Rts.res1 (fn:=Tryz.f99) rfl (.b rfl idxF_nonneg<|.nil)

theorem ct_between (n a b:Int):Ct Tryz.prog 186 [kI n,kI a,kI b] (kB (decide (a≤n∧n≤b))):=by
 refine Ct.mk Tryz.func186 rfl Tryz.ntmps186 rfl (fun w J=>?_); refine jx19 ?_; exact Rts.res1 (fn:=Tryz.f186) rfl (.b rfl (by symm; exact Bool.decide_and _ _)<|.nil)

theorem ct_fCheck1 (c:Int):Ct Tryz.prog 187 [kI c] (kB (outCf c)):=by
 refine Ct.mk Tryz.func187 rfl Tryz.ntmps187 rfl (fun w J=>?_); refine jx8 ?_; refine tO (ok_call (fun hp=>ct_between _ _ _) (.a rfl uu<|.a rfl uu<|.a rfl uu<|.nil)) rfl rfl ?_; refine jx5 ?_; exact Rts.res1 (fn:=Tryz.f187) rfl (.b rfl (by rfl)<|.nil)

theorem ct_divided2 (p:List Int) (hp:p.length=2):Ct Tryz.prog 188 [kRd (eL eI) p] (kB false):=by
 refine Ct.mk Tryz.func188 rfl Tryz.ntmps188 rfl (fun w J=>?_); refine jx2 ?_; refine jb 1 rfl ?_; refine jx20 ?_; refine Tr.cnd rfl ?_ ?_
 ·intro h2
  try simp only[decide_eq_true_eq] at h2
  refine jx8 ?_; exact Rts.res1 (fn:=Tryz.f188) rfl (.b rfl (by rfl)<|.nil)
 ·intro h2
  try simp only[decide_eq_false_iff_not] at h2
  exact absurd h2 zo

theorem ct_oneRat  : Ct Tryz.prog 189 [kRd eFd ratF] (kB true):=by
 have q0:ratF.1.length=2:=rfl
 have q2:nth ratF.1 (Int.toNat 0)=0:=rfl
 have q3:ratF.2.2.2=1:=rfl
 have q4:-nth ratF.1 (Int.toNat 0)*ratF.2.2.2=0:=by decide
 refine Ct.mk Tryz.func189 rfl Tryz.ntmps189 rfl (fun w J=>?_); refine jx2 ?_; refine jb 1 rfl ?_; refine jx12 ?_; refine Tr.cnd rfl ?_ ?_
 ·intro h1
  refine jx1 ?_; refine Tr.draw 12 mixed (by kernel_rfl) ?_; refine jx4 ?_; refine rO (ok_neg rfl uu (fun _=>zo)) rfl rfl ?_; refine jx8 ?_; refine tO (ok_call (fun hp=>ct_between _ _ _) (.a rfl uu<|.a rfl uu<|.a rfl uu<|.nil)) rfl rfl ?_; refine jx5 ?_; exact Rts.res1 (fn:=Tryz.f189) rfl (.b rfl (by decide)<|.nil)
 ·intro h1
  exact absurd h1 (by decide)

theorem ct_fCheckRat  : Ct Tryz.prog 157 [kRd eFd ratF] (kI 0):=by
 have q0:ratF.1.length=2:=rfl
 have q2:nth ratF.1 (Int.toNat 0)=0:=rfl
 have q3:ratF.2.2.2=1:=rfl
 have q4:-nth ratF.1 (Int.toNat 0)*ratF.2.2.2=0:=by decide
 refine Ct.mk Tryz.func157 rfl Tryz.ntmps157 rfl (fun w J=>?_); refine jx2 ?_; refine jb 1 rfl ?_; refine jx16 ?_; refine tO (ok_call (fun hp=>ct_between _ _ _) (.a rfl uu<|.a rfl uu<|.a rfl uu<|.nil)) rfl rfl ?_; refine jx4 ?_; refine Tr.cnd rfl ?_ ?_
 ·intro h2
  exact absurd h2 (by decide)
 ·intro h2
  refine jx4 ?_; refine tO (ok_call (fun hp=>ct_ContainsFunc _ 187 outCf (fun x=>ct_fCheck1 x)) (.a rfl uu<|.a rfl uu<|.nil)) rfl rfl ?_; refine jx3 ?_; refine Tr.cnd rfl ?_ ?_
  ·intro h4
   exact absurd h4 (by decide)
  ·intro h4
   refine jx4 ?_; refine tO (ok_call (fun hp=>ct_between _ _ _) (.a rfl uu<|.a rfl uu<|.a rfl uu<|.nil)) rfl rfl ?_; refine jx4 ?_; refine TrL.gd rfl rfl rfl (ok_call (fun hp=>ct_between _ _ _) (.a rfl id<|.a rfl uu<|.a rfl uu<|.nil)) rfl rfl ?_; refine jx5 ?_; refine TrL.gd rfl rfl rfl (ok_call (fun hp=>ct_between _ _ _) (.a rfl id<|.a rfl uu<|.a rfl uu<|.nil)) rfl rfl ?_; refine jx5 ?_; refine Tr.cnd rfl ?_ ?_
   ·intro h6
    exact absurd h6 (by decide)
   ·intro h6
    refine jx12 ?_; refine TrL.gd rfl rfl rfl (ok_call (fun hp=>ct_divided2 _ (by decide)) (.a rfl id<|.nil)) rfl rfl ?_; refine jx4 ?_; refine Tr.cnd rfl ?_ ?_
    ·intro h8
     exact absurd h8 (by decide)
    ·intro h8
     refine jx10 ?_; refine Tr.cnd rfl ?_ ?_
     ·intro h10
      exact absurd h10 (by decide)
     ·intro h10
      refine jx3 ?_; refine jc ct_oneRat ?_; refine jx4 ?_; refine Tr.cnd rfl ?_ ?_
      ·intro h12
       exact absurd h12 (by decide)
      ·intro h12
       refine jx9 ?_; exact Rts.res1 (fn:=Tryz.f157) rfl (.i rfl (by rfl)<|.nil)

theorem ct_rRational  : Ct Tryz.prog 112 [] (kRd eFd ratF):=by
 refine Ct.mk Tryz.func112 rfl Tryz.ntmps112 rfl (fun w J=>?_); refine jx2 ?_; refine ja 0 ?_; refine jx4 ?_; refine TrL.new (ok_bsl eI 1 (fun hp=>.cons rfl<|.cons rfl<|.nil) rfl rfl rfl rfl) rfl rfl rfl rfl ?_; refine tO (ok_build (fun hp=>.cons rfl rfl rfl<|.cons rfl rfl rfl<|.nil)) rfl rfl ?_; refine jx3 ?_; refine Tr.frzC 1 0 (by simp only[lenMax]; omega) rfl rfl ?_; refine jx1 ?_; exact Rts.resC1 (fn:=Tryz.f112) rfl rfl (aggRd rfl (by rfl))

end Go.Fl

/- Integers of any size in arrays of the call's own: loads and stores at any place. -/
namespace Go.Fl
open Go Go.RowKit
set_option maxRecDepth 100000
def eZ:Enc Int:=eC wh eW
instance {z:Int}:Norm eZ z (kRd eW (wh z)):=⟨fun h=>h⟩
instance {z:Int}:CellsK (kRd eZ z) [kB (decide (z<0)),kRd (eL eI) (digN z.natAbs)]:=inferInstanceAs (CellsK (kRd eW (wh z)) _)
instance {z:Int} {tl:List Know}:EncCells eZ z tl (kB (decide (z<0))::kRd (eL eI) (digN z.natAbs)::tl):=⟨fun h h'=>(inferInstance:EncCells eW (wh z) tl (kB (decide (z<0))::kRd (eL eI) (digN z.natAbs)::tl)).imp h h'⟩
instance {z:Int} {r:List Know}:RdOf (kB (decide (z<0))::kRd (eL eI) (digN z.natAbs)::r) eZ z r:=⟨fun h=>(inferInstance:RdOf (kB (decide (z<0))::kRd (eL eI) (digN z.natAbs)::r) eW (decide (z<0),digN z.natAbs) r).imp h⟩
instance {z:Int}:ToRd (kRd eW (wh z)) eZ z:=⟨fun h=>⟨h.cells,eW.all1 h.cells⟩⟩
instance {r:List Know}:RdOf (kB false::kDet (.slice none 0 0)::r) eZ 0 r:=⟨fun h=>(inferInstance:RdOf (kB false::kDet (.slice none 0 0)::r) eW (false,[]) r).imp h⟩
def wC (f:Nat→Int):Nat→Nat→List Know
 | _,0=>[]
 | i,m+1=>kB (decide (f i<0))::kRd (eL eI) (digN (f i).natAbs)::wC f (i+1) m
theorem wC_len {f:Nat→Int}:∀{m i:Nat},(wC f i m).length=m*2
 | 0,_=>rfl
 | m+1,i=>by simp only[wC,List.length_cons,wC_len (m:=m)]; omega
instance {f:Nat→Int} {i m:Nat}:KsDep (wC f i m) []:=⟨by
 intro g g' vs hl _ h
 induction m generalizing i vs with
 | zero=>cases vs with
  | nil=>trivial
  | cons=>exact h.elim
 | succ m ih=>match vs,h with
  | v::u::vs,⟨h1,h2,h3⟩=>exact ⟨h1,KDep.dep (k:=kRd (eL eI) _) (g:=g) hl (fun _ h=>by cases h) h2,ih h3⟩⟩
theorem allK_split {g:Gh}:∀{ks ls:List Know} {vs:List Value},allK g (ks++ls) vs→∃v1 v2,vs=v1++v2∧allK g ks v1∧allK g ls v2
 | [],_,vs,h=>⟨[],vs,rfl,trivial,h⟩
 | _::_,_,v::vs,h=>by
  obtain ⟨v1,v2,rfl,h1,h2⟩:=allK_split h.2
  exact ⟨v::v1,v2,rfl,⟨h.1,h1⟩,h2⟩
 | _::_,_,[],h=>h.elim
instance (priority:=low) {ks ls:List Know} {ds es:List Nat} [h:KsDep ks ds] [k:KsDep ls es]:KsDep (ks++ls) (ds++es):=⟨fun hl hd h'=>by
 obtain ⟨v1,v2,rfl,h1,h2⟩:=allK_split h'
 exact allK_append (h.dep hl (fun t ht=>hd t (List.mem_append.2 (.inl ht))) h1) (k.dep hl (fun t ht=>hd t (List.mem_append.2 (.inr ht))) h2)⟩
instance {f:Nat→Int} {i m:Nat}:OneKs (wC f i m):=⟨by
 intro g cs h
 induction m generalizing i cs with
 | zero=>cases cs with
  | nil=>rfl
  | cons=>exact h.elim
 | succ m ih=>match cs,h with
  | v::u::vs,⟨h1,h2,h3⟩=>simp only[List.all_cons,OneC.imp (k:=kB _) h1,OneC.imp (k:=kRd (eL eI) _) h2,ih h3,Bool.and_self]⟩
instance {ks ls:List Know} [h:OneKs ks] [k:OneKs ls]:OneKs (ks++ls):=⟨fun h'=>by
 obtain ⟨v1,v2,rfl,h1,h2⟩:=allK_split h'
 rw[List.all_append,h.imp h1,k.imp h2]; rfl⟩
theorem wC_rd {f:Nat→Int} {g:Gh}:∀{m i:Nat} {cs:List Value},allK g (wC f i m) cs→rdA eZ g.J cs ((List.range' i m).map f)
 | 0,_,cs,h=>by cases cs with
  | nil=>rfl
  | cons=>exact h.elim
 | m+1,i,cs,h=>by
  match cs,h with
  | v::u::vs,⟨h1,h2,h3⟩ =>
   obtain ⟨c1,c2,he,q1,q2⟩:=(inferInstance:RdOf (kB (decide (f i<0))::kRd (eL eI) (digN (f i).natAbs)::[]) eZ (f i) []).imp (g:=g) (cs:=[v,u]) ⟨h1,h2,trivial⟩
   cases c2 with
   | nil =>
    rw[List.append_nil] at he
    subst he
    exact ⟨[v,u],vs,rfl,q1,wC_rd h3⟩
   | cons=>exact q2.elim
theorem range_tab {m:Nat} {f:Nat→Int}:(List.range' 0 m).map f=tab m f:=by rw[← List.range_eq_range']; rfl
instance {f:Nat→Int} {m:Nat} {r:List Know}:RdOf (wC f 0 m++r) (eArr m eZ) (tab m f) r:=⟨fun h=>by
 obtain ⟨v1,v2,rfl,h1,h2⟩:=allK_split h
 exact ⟨v1,v2,rfl,⟨tab_len,by rw[← range_tab]; exact wC_rd h1⟩,h2⟩⟩
instance {f:Nat→Int} {m:Nat}:RdOf (wC f 0 m) (eArr m eZ) (tab m f) []:=⟨fun {g cs} h=>⟨cs,[],by simp,⟨tab_len,by rw[← range_tab]; exact wC_rd h⟩,trivial⟩⟩
instance {f:Nat→Int} {m:Nat}:RdRow (wC f 0 m) eZ (tab m f):=⟨fun {g cs} h i x hx=>rdA_at (J:=g.J) (by rw[← range_tab]; exact wC_rd h) hx⟩
theorem wC_cells {f:Nat→Int} {g:Gh} {tl:List Know} {ds:List Value} (ht:allK g tl ds):∀{xs:List Int} {i:Nat} {cs:List Value},rdA eZ g.J cs xs→(∀j,j<xs.length→f (i+j)=nth xs j)→allK g (wC f i xs.length++tl) (cs++ds)
 | [],_,_,h,_=>by have h:_=[]:=h; subst h; exact ht
 | x::xs,i,_,⟨c1,c2,h,h1,h2⟩,hf=>by
  subst h
  have hx:f i=x:=hf 0 (by simp)
  have hr:=wC_cells (f:=f) ht (i:=i+1) h2 (fun j hj=>by
   have:=hf (j+1) (by simp; omega)
   rw[show i+1+j=i+(j+1) by omega,this]; rfl)
  have:=(inferInstance:EncCells eZ x (wC f (i+1) xs.length++tl) _).imp h1 hr
  simp only[List.length_cons,wC,hx,List.cons_append]
  rw[List.append_assoc]
  exact this
instance {m:Nat} {l:List Int} {tl:List Know}:EncCells (eArr m eZ) l tl (wC (nth l) 0 m++tl):=⟨fun ⟨h1,h2⟩ ht=>by
 subst h1
 exact wC_cells ht h2 (fun j _=>by rw[Nat.zero_add])⟩
instance {f:Nat→Int} {r:List Know}:SubK (wC f 0 4++r) 0 8 (wC f 0 4):=⟨by simp[wC],rfl⟩
instance {f:Nat→Int} {r:List Know}:SubK (wC f 0 4++r) (0+0) 8 (wC f 0 4):=⟨by simp[wC],rfl⟩
instance {f:Nat→Int} {a b:Know}:SubK (wC f 0 4++[a,b]) 8 2 [a,b]:=⟨rfl,rfl⟩
instance {f:Nat→Int} {a b:Know}:SubK (wC f 0 4++[a,b]) (0+8) 2 [a,b]:=⟨rfl,rfl⟩
instance {f:Nat→Int} {a b:Know}:SubK (wC f 0 4++[a,b]) 0 10 (wC f 0 4++[a,b]):=⟨rfl,rfl⟩
instance {f:Nat→Int} {a b x y:Know}:SetAt (wC f 0 4++[a,b]) 8 [x,y] (wC f 0 4++[x,y]):=⟨by simp[wC],rfl⟩
instance {f:Nat→Int} {a b x y:Know}:SetAt (wC f 0 4++[a,b]) (0+8) [x,y] (wC f 0 4++[x,y]):=⟨by simp[wC],rfl⟩
instance {f:Nat→Int} {a b k0 k1 k2 k3 k4 k5 k6 k7 k8 k9:Know}:SetAt [k0,k1,k2,k3,k4,k5,k6,k7,k8,k9] 0 (wC f 0 4++[a,b]) (wC f 0 4++[a,b]):=⟨by simp[wC],by simp[wC]⟩
instance {f f':Nat→Int} {a b a' b':Know}:SetAt (wC f' 0 4++[a',b']) 0 (wC f 0 4++[a,b]) (wC f 0 4++[a,b]):=⟨by simp[wC],by simp[wC]⟩
def upd (f:Nat→Int) (j:Nat) (z:Int):Nat→Int:=fun i=>if i=j then z else f i
theorem wC_get {f:Nat→Int} {g:Gh} {r:List Know} {m j:Nat} {cs:List Value} (h:allK g (wC f 0 m++r) cs) (hj:j<m):∃ds,eW.rd g.J ds (wh (f j))∧∀q v,ds[q]?=some v→cs[2*j+q]?=some v:=by
 obtain ⟨v1,v2,rfl,h1,_⟩:=allK_split h
 have hr:=wC_rd h1
 rw[range_tab] at hr
 obtain ⟨ds,q1,q2⟩:=rdA_at hr (i:=j) (x:=f j) (by rw[show f j=nth (tab m f) j from (nth_tab hj).symm]; exact nth_get (by rw[tab_len]; exact hj))
 refine ⟨ds,q1,fun q v hv=>?_⟩
 have:=q2 q v hv
 rw[show eZ.n=2 from rfl] at this
 rw[Nat.mul_comm,List.getElem?_append_left (List.getElem?_eq_some_iff.1 this).1]
 exact this
theorem wC_upd {f:Nat→Int} {z:Int} {g:Gh} {v u:Value} (hv:v=.bool (decide (z<0))) (hu:kRd (eL eI) (digN z.natAbs) g u):∀{m i j:Nat} {r:List Know} {cs:List Value},allK g (wC f i m++r) cs→j<m→allK g (wC (upd f (i+j) z) i m++r) (cs.take (2*j)++[v,u]++cs.drop (2*j+2))
 | 0,_,_,_,_,_,hj=>by omega
 | m+1,i,0,r,cs,h,_=>by
  match cs,h with
  | a::b::cs,⟨_,_,h3⟩ =>
   have h4:∀{m k:Nat} {vs:List Value},i<k→allK g (wC f k m++r) vs→allK g (wC (upd f i z) k m++r) vs:=fun {m}=>by
    induction m with
    | zero=>exact fun _ h=>h
    | succ m ih =>
     intro k vs hk h
     match vs,h with
     | a::b::vs,⟨q1,q2,q3⟩ =>
      have e:upd f i z k=f k:=if_neg zo
      simp only[wC,e,List.cons_append]
      exact ⟨q1,q2,ih zo q3⟩
   have e:upd f i z i=z:=if_pos rfl
   simp only[wC,Nat.add_zero,e,List.cons_append,Nat.mul_zero,List.take_zero,List.nil_append,Nat.zero_add,List.drop_succ_cons,List.drop_zero]
   exact ⟨hv,hu,h4 zo h3⟩
 | m+1,i,j+1,r,cs,h,hj=>by
  match cs,h with
  | a::b::cs,⟨h1,h2,h3⟩ =>
   have:=wC_upd hv hu (i:=i+1) (j:=j) h3 zo
   rw[show i+1+j=i+(j+1) by omega] at this
   have e:upd f (i+(j+1)) z i=f i:=if_neg zo
   simp only[wC,e,List.cons_append,show 2*(j+1)=2*j+2 by omega,List.take_succ_cons,List.drop_succ_cons]
   exact ⟨h1,h2,this⟩
section
variable {P:Program} {c:Ctx} {S:Slots} {M:Conts} {p:Bool} {d:Option Tmp} {ty:TypeId} {pos:String} {af:Array Edge} {gd:Option (Nat×Bool)} {x y:Operand} {b b':Bool}
theorem ok_ldW {t:TypeId} [ht:TyAgg P t] {by':Nat} {zz:Value} [hz:TySz P t 2 by' zz] {u o:Nat} (j:Nat) {m:Nat} {f:Nat→Int} {r:List Know} {dep:List Nat} [hl:LkM M u (cBlk (wC f 0 m++r)) dep] (hj:p=true→j<m) (ho:p=true→o=2*j) (hx:opK S x=some (b,kOwn u o)) (hb:p=true→b=true) :
  OpOk P c S M ⟨d,.load t x,ty,pos,af,gd⟩ p (kRd eW (wh (f j))) none :=
 OpOk.pure fun hp a g w hok hc hop=>by
  obtain ⟨bl,cap,h1,h2⟩:=hop x (by simp[Op.operands]) b _ hx (hb hp)
  obtain ⟨cs,ty',h3,h4⟩:=blk_of (ks:=wC f 0 m++r) hc h1
  obtain ⟨ds,q1,q2⟩:=wC_get h4 (hj hp)
  have ho:=ho hp
  subst ho
  exact ⟨.agg ds.toArray,by simp only[execOp,h2,Sem.run_bind,run_loadAt_agg (P:=P) (t:=t) (w:=w) (b:=bl) (o:=2*j) (eW.len q1) (fun q v hv=>cell_own h3 (by simpa using q2 q v hv)),Result.andThen_ok,Sem.run_pure],_,q1,rfl⟩
theorem ok_idxW {t et:TypeId} {n:Nat} [ht:TyArr P t n et] {by':Nat} {zz:Value} [hz:TySz P et 2 by' zz] [hag:TyAgg P et] {f:Nat→Int} {ik:IntKind} {i:Nat} (hx:opK S x=some (b,kAgg (wC f 0 n))) (hb:p=true→b=true) (hy:opK S y=some (b',kInt ik (i:Int))) (hb':p=true→b'=true) (h:p=true→i<n) :
  OpOk P c S M ⟨d,.index t x y,ty,pos,af,gd⟩ p (kRd eW (wh (f i))) none:=by
 cases p with
 | false=>exact fun hp=>by cases hp
 | true =>
  have:=ok_idxAA (P:=P) (c:=c) (M:=M) (d:=d) (ty:=ty) (pos:=pos) (af:=af) (gd:=gd) (t:=t) (et:=et) eZ (ks:=wC f 0 n) (xs:=tab n f) hx hb hy hb' rfl rfl wC_len (fun _=>⟨h rfl,by rw[tab_len]; exact h rfl⟩)
  rwa [nth_tab (h rfl)] at this
end
section
variable {P:Program} {c:Ctx} {ops:Array Oper} {S:Slots} {M:Conts} {rest:List Oper} {Q:Exit→Act→World→Prop} {x y:Operand}
variable {ty:TypeId} {pos:String} {af:Array Edge}
theorem TrL.stW {t:TypeId} {by':Nat} {zz:Value} [hz:TySz P t 2 by' zz] {u o:Nat} (j:Nat) {m:Nat} {f:Nat→Int} {z:Int} {r:List Know} {dep dep':List Nat} {M':Conts} (hj:j<m) (ho:o=2*j) (hx:opK S x=some (true,kOwn u o)) (hy:opK S y=some (true,kRd eW (wh z))) [hl:LkM M u (cBlk (wC f 0 m++r)) dep]
  [hd:KsDep (wC (upd f j z) 0 m++r) dep'] [hup:UpM M u (cBlk (wC (upd f j z) 0 m++r)) dep' M'] (hs:subT dep' (tags M)=true) (K:TrL P c ops S M' rest Q):TrL P c ops S M (⟨none,.store t x y,ty,pos,af,none⟩::rest) Q:=by
 intro a g w hsat
 subst ho
 obtain ⟨b,cap,hm,he⟩:=opK_holds hsat.slots hx rfl
 have hv:=opK_holds hsat.slots hy rfl
 obtain ⟨cs,tt,h3,h4⟩:=blk_of (ks:=wC f 0 m++r) hsat.conts hm
 obtain ⟨h5,h6⟩:=(inferInstance:CellsK (kRd eW (wh z)) [kB (decide (z<0)),kRd (eL eI) (digN z.natAbs)]).imp hv
 obtain ⟨v1,u1,hvs,e1,e2⟩:∃v u,(a.eval y).cells.toList=[v,u]∧v=.bool (decide (z<0))∧kRd (eL eI) (digN z.natAbs) g u:=by
  match h:(a.eval y).cells.toList,h5 with
  | [v,u],h5=>exact ⟨v,u,rfl,h5.1,h5.2.1⟩
 have hcl:=allK_len h4
 simp only[Array.length_toList,List.length_append,wC_len] at hcl
 have hsz:(a.eval y).cells.size=2:=by rw[← Array.length_toList,hvs]; rfl
 have hr:=run_storeAt (P:=P) (t:=t) (o:=2*j) h3 hsz zo (List.all_eq_true.1 h6)
 refine wpList_plain rfl fun K' hK'=>?_
 unfold Oper.wp
 simp only[execOp,he,Sem.run_bind,hr,Result.andThen_ok,Sem.run_pure,Oper.upon,Act.put]
 have hnew:=wC_upd (j:=j) e1 e2 h4 hj
 rw[Nat.zero_add] at hnew
 exact hK' _ _ (K a g _ (hsat.store hm h3 hup ⟨_,_,rfl,by rw[hvs]; simpa using hnew⟩ inferInstance (subT_spec hs)))
end
def eNu:Enc (List Int×Int):=eC (fun v:List Int×Int=>(v.1,v.2,())) (eP (eArr 4 eZ) (eP eZ eU))
instance {v:List Int×Int}:CellsK (kRd eNu v) (wC (nth v.1) 0 4++[kB (decide (v.2<0)),kRd (eL eI) (digN v.2.natAbs)]):=inferInstanceAs (CellsK (kRd (eC (fun v:List Int×Int=>(v.1,v.2,())) (eP (eArr 4 eZ) (eP eZ eU))) v) _)
instance {v:List Int×Int}:Norm eNu v (kRd eNu v):=⟨fun h=>h⟩
instance {v:List Int×Int}:FieldP eNu v 0 (eArr 4 eZ) v.1 0:=inferInstanceAs (FieldP (eC (fun v:List Int×Int=>(v.1,v.2,())) (eP (eArr 4 eZ) (eP eZ eU))) v 0 _ _ _)
instance {v:List Int×Int}:FieldP eNu v 1 eZ v.2 8:=inferInstanceAs (FieldP (eC (fun v:List Int×Int=>(v.1,v.2,())) (eP (eArr 4 eZ) (eP eZ eU))) v 1 _ _ _)
instance {f:Nat→Int} {d:Int} {r:List Know}:RdOf (wC f 0 4++kB (decide (d<0))::kRd (eL eI) (digN d.natAbs)::r) eNu (tab 4 f,d) r:=⟨fun h=>(inferInstance:RdOf (wC f 0 4++kB (decide (d<0))::kRd (eL eI) (digN d.natAbs)::r) (eP (eArr 4 eZ) (eP eZ eU)) (tab 4 f,d,()) r).imp h⟩
instance {r:List Know}:RdOf (kDet (.bool false)::kDet (.slice none 0 0)::r) eZ 0 r:=⟨fun {g cs} h=>(inferInstance:RdOf (kB false::kDet (.slice none 0 0)::r) eZ 0 r).imp (g:=g) (cs:=cs) (match cs,h with | _::_::_,⟨h1,h2,h3⟩=>⟨h1,h2,h3⟩)⟩
instance (priority:=low) {a b c d e:Int} {ks r1 r2 r3 r4 r:List Know} [h1:RdOf ks eZ a r1] [h2:RdOf r1 eZ b r2] [h3:RdOf r2 eZ c r3] [h4:RdOf r3 eZ d r4] [h5:RdOf r4 eZ e r]:RdOf ks eNu ([a,b,c,d],e) r:=⟨fun {g cs} h=>by
 obtain ⟨c1,t1,rfl,q1,h⟩:=h1.imp h
 obtain ⟨c2,t2,rfl,q2,h⟩:=h2.imp h
 obtain ⟨c3,t3,rfl,q3,h⟩:=h3.imp h
 obtain ⟨c4,t4,rfl,q4,h⟩:=h4.imp h
 obtain ⟨c5,t5,rfl,q5,h⟩:=h5.imp h
 exact ⟨c1++c2++c3++c4++c5,t5,by simp,⟨c1++c2++c3++c4,c5,by simp,⟨rfl,c1,c2++c3++c4,by simp,q1,c2,c3++c4,by simp,q2,c3,c4,by simp,q3,c4,[],by simp,q4,rfl⟩,c5,[],by simp,q5,rfl⟩,h⟩⟩
theorem eNu_len {v:List Int×Int} {g:Gh} {u:Value} (h:kRd eNu v g u):v.1.length=4:=by
 obtain ⟨_,⟨_,_,_,⟨h,_⟩,_⟩,_⟩:=h
 exact h
theorem cB_eq {ks ks':List Know} (h:ks=ks'):∀g b o,cBlk ks g b o→cBlk ks' g b o:=fun _ _ _ h'=>by subst h; exact h'
theorem wC_congr {f f':Nat→Int}:∀{m i:Nat},(∀j,i≤j→j<i+m→f j=f' j)→wC f i m=wC f' i m
 | 0,_,_=>rfl
 | m+1,i,h=>by simp only[wC]; rw[h i (Nat.le_refl _) zo,wC_congr fun j h1 h2=>h j zo zo]
theorem cW {f f':Nat→Int} {m:Nat} {r r':List Know} (h:∀j,j<m→f j=f' j) (hr:r=r'):∀g b o,cBlk (wC f 0 m++r) g b o→cBlk (wC f' 0 m++r') g b o:=cB_eq (by rw[wC_congr fun j _ hj=>h j zo,hr])
theorem dcell {d d':Int} (h:d=d'):[kB (decide (d<0)),kRd (eL eI) (digN d.natAbs)]=[kB (decide (d'<0)),kRd (eL eI) (digN d'.natAbs)]:=by rw[h]
end Go.Fl

/- Numbers: coefficients over a denominator, in lowest terms. Plain Lean, no program in sight. -/
namespace Go.Fl
def gL (g:Nat):List Int→Nat
 | []=>g
 | c::cs=>gL (Nat.gcd g c.natAbs) cs
theorem gL_dvd:∀{cs:List Int} {g:Nat},gL g cs∣g∧∀c∈cs,gL g cs∣c.natAbs
 | [],g=>⟨Nat.dvd_refl _,fun c h=>by cases h⟩
 | c::cs,g=>by
  obtain ⟨h1,h2⟩:=gL_dvd (cs:=cs) (g:=Nat.gcd g c.natAbs)
  rw[gL]
  refine ⟨Nat.dvd_trans h1 (Nat.gcd_dvd_left _ _),fun x hx=>?_⟩
  rcases List.mem_cons.1 hx with rfl | hx
  ·exact Nat.dvd_trans h1 (Nat.gcd_dvd_right _ _)
  ·exact h2 x hx
theorem gL_pos {cs:List Int} {g:Nat} (h:0<g):0<gL g cs:=Nat.pos_of_dvd_of_pos gL_dvd.1 h
theorem gL_mul:∀{cs:List Int} {g:Nat} {m:Int},gL (g*m.natAbs) (cs.map fun c=>c*m)=gL g cs*m.natAbs
 | [],_,_=>rfl
 | c::cs,g,m=>by rw[List.map_cons,gL,gL,Int.natAbs_mul,Nat.gcd_mul_right,gL_mul]
theorem gL_snoc:∀{cs:List Int} {g:Nat} {c:Int},gL g (cs++[c])=Nat.gcd (gL g cs) c.natAbs
 | [],_,_=>rfl
 | x::cs,g,c=>by rw[List.cons_append,gL,gL,gL_snoc]
theorem gL_zeros:∀{k g:Nat},gL g (List.replicate k 0)=g
 | 0,_=>rfl
 | k+1,g=>by rw[List.replicate_succ,gL,Int.natAbs_zero,Nat.gcd_zero_right,gL_zeros]
theorem gL_append:∀{xs ys:List Int} {g:Nat},gL g (xs++ys)=gL (gL g xs) ys
 | [],_,_=>rfl
 | x::xs,ys,g=>by rw[List.cons_append,gL,gL,gL_append]
def sgG (d:Int) (cs:List Int):Int:=if d<0 then -(gL d.natAbs cs:Int) else gL d.natAbs cs
theorem sgG_ne {d:Int} {cs:List Int} (h:d≠0):sgG d cs≠0:=by
 have:=gL_pos (cs:=cs) (show 0<d.natAbs by omega)
 unfold sgG; split<;>omega
theorem sgG_dvd {d:Int} {cs:List Int} {c:Int} (h:c=d∨c∈cs):sgG d cs∣c:=by
 have h1:((gL d.natAbs cs:Nat):Int)∣c:=by
  refine Int.ofNat_dvd_left.2 ?_
  rcases h with rfl | h
  ·exact gL_dvd.1
  ·exact gL_dvd.2 c h
 unfold sgG
 split
 ·exact Int.neg_dvd.2 h1
 ·exact h1
theorem sgG_mul {d m:Int} {cs:List Int} (hd:d≠0) (hm:m≠0):sgG (d*m) (cs.map fun c=>c*m)=sgG d cs*m:=by
 unfold sgG
 rw[Int.natAbs_mul,gL_mul,Int.natCast_mul]
 by_cases h1:d<0<;>by_cases h2:m<0
 ·have h3:=Int.mul_pos_of_neg_of_neg h1 h2
  rw[if_neg zo,if_pos h1,show ((m.natAbs:Nat):Int)=-m by omega,Int.mul_neg,Int.neg_mul]
 ·have h3:=Int.mul_neg_of_neg_of_pos h1 (show 0<m by omega)
  rw[if_pos h3,if_pos h1,show ((m.natAbs:Nat):Int)=m by omega,Int.neg_mul]
 ·have h3:=Int.mul_neg_of_pos_of_neg (show 0<d by omega) h2
  rw[if_pos h3,if_neg h1,show ((m.natAbs:Nat):Int)=-m by omega,Int.mul_neg,Int.neg_neg]
 ·have h3:=Int.mul_pos (show 0<d by omega) (show 0<m by omega)
  rw[if_neg zo,if_neg h1,show ((m.natAbs:Nat):Int)=m by omega]
theorem ediv_scale {a b m:Int} (hb:b≠0) (hm:m≠0) (h:b∣a):a*m/(b*m)=a/b:=by
 obtain ⟨q,rfl⟩:=h
 rw[Int.mul_ediv_cancel_left _ hb,show b*q*m=b*m*q by rw[Int.mul_assoc,Int.mul_comm q,← Int.mul_assoc],Int.mul_ediv_cancel_left _ (Int.mul_ne_zero hb hm)]
def loN (cs:List Int) (d:Int):List Int×Int:=(cs.map fun c=>c/sgG d cs,d/sgG d cs)
theorem low_scale {cs:List Int} {d m:Int} (hd:d≠0) (hm:m≠0):loN (cs.map fun c=>c*m) (d*m)=loN cs d:=by
 unfold loN
 rw[sgG_mul hd hm,List.map_map]
 refine Prod.ext ?_ (ediv_scale (sgG_ne hd) hm (sgG_dvd (.inl rfl)))
 exact List.map_congr_left fun c hc=>ediv_scale (sgG_ne hd) hm (sgG_dvd (.inr hc))
theorem low_eq {cs cs':List Int} {d d':Int} (hd:d≠0) (hd':d'≠0) (h:(cs.map fun c=>c*d')=cs'.map fun c=>c*d):loN cs d=loN cs' d':=by
 rw[← low_scale (cs:=cs) hd hd',← low_scale (cs:=cs') hd' hd,h,Int.mul_comm]
theorem low_len {cs:List Int} {d:Int}:(loN cs d).1.length=cs.length:=by unfold loN; simp
theorem low_pos {cs:List Int} {d:Int} (hd:d≠0):0<(loN cs d).2:=by
 unfold loN
 obtain ⟨q,hq⟩:=sgG_dvd (d:=d) (cs:=cs) (.inl rfl)
 have h0:=sgG_ne (cs:=cs) hd
 show 0<d/sgG d cs
 have e:d/sgG d cs=q:=(congrArg (fun z=>z/sgG d cs) hq).trans (Int.mul_ediv_cancel_left _ h0)
 rw[e]
 have hg:=gL_pos (cs:=cs) (show 0<d.natAbs by omega)
 refine Classical.byContradiction fun hn=>?_
 by_cases h:d<0
 ·have e:sgG d cs=-(gL d.natAbs cs:Int):=if_pos h
  rw[e] at hq
  have:(-(gL d.natAbs cs:Int))*q=(gL d.natAbs cs:Int)*(-q):=by rw[Int.neg_mul,Int.mul_neg]
  have h5:=Int.mul_nonneg (a:=(gL d.natAbs cs:Int)) (b:=-q) zo zo
  omega
 ·have e:sgG d cs=(gL d.natAbs cs:Int):=if_neg h
  rw[e] at hq
  have h5:=Int.mul_nonneg (a:=(gL d.natAbs cs:Int)) (b:=-q) zo zo
  rw[Int.mul_neg] at h5
  omega
theorem low_pad {cs:List Int} {d:Int} {k:Nat}:loN (cs++List.replicate k 0) d=((loN cs d).1++List.replicate k 0,(loN cs d).2):=by
 have e:sgG d (cs++List.replicate k 0)=sgG d cs:=by unfold sgG; rw[gL_append,gL_zeros]
 unfold loN
 rw[e,List.map_append]
 simp
theorem trim_pad:∀{xs:List Int} {k:Nat},trimL (xs++List.replicate k 0)=trimL xs
 | [],k=>by
  rw[List.nil_append]
  exact trim_zero fun i hi=>nth_rep (by simpa using hi)
 | x::xs,k=>by rw[List.cons_append,trimL,trimL,trim_pad]
def red1 (p:List Int) (n:Nat) (xs:List Int):List Int:=tab (xs.length-1) fun j=>nth xs j-if xs.length-1-n≤j then nth xs (xs.length-1)*nth p (j-(xs.length-1-n)) else 0
theorem red1_len {p xs:List Int} {n:Nat}:(red1 p n xs).length=xs.length-1:=tab_len
def redF (p:List Int) (n:Nat):Nat→List Int→List Int
 | 0,xs=>xs++List.replicate (n-xs.length) 0
 | f+1,xs=>if xs.length≤n then xs++List.replicate (n-xs.length) 0 else redF p n f (red1 p n xs)
def red (p:List Int) (xs:List Int):List Int:=redF p (p.length-1) (xs.length-(p.length-1)) xs
theorem redF_len {p:List Int} {n:Nat}:∀{f:Nat} {xs:List Int},xs.length≤n+f→(redF p n f xs).length=n
 | 0,xs,h=>by rw[redF,List.length_append,List.length_replicate]; omega
 | f+1,xs,h=>by
  rw[redF]
  split
  ·rw[List.length_append,List.length_replicate]; omega
  ·exact redF_len (by rw[red1_len]; omega)
theorem red_len {p xs:List Int}:(red p xs).length=p.length-1:=redF_len zo
end Go.Fl

/- Numbers of a field in lowest terms, as the programs reckon them. No program in sight. -/
namespace Go.Fl
open Go
theorem cmpZ_z {y:Int}:cmpZ y 0=0↔y=0:=by unfold cmpZ; split<;>(try split)<;>omega
theorem gcd_stepZ {x y:Int}:Int.gcd y (x%y)=Int.gcd x y:=by
 first
  | (rw[Int.gcd_comm]; exact Int.gcd_emod ..)
  | simp
  | (rw[Int.emod_def,Int.gcd_comm]; simp)
theorem gL_take {c:List Int} {g k:Nat} (hk:k<c.length):(gL g (c.take (k+1)):Int)=Int.gcd (gL g (c.take k):Int) (nth c k):=by
 have e:c.take (k+1)=c.take k++[nth c k]:=by
  rw[List.take_succ_eq_append_getElem hk]
  congr 2
  simp[nth,hk]
 rw[e,gL_snoc]; rfl
theorem gL_le {c:List Int} {g:Nat} (h:0<g):gL g c≤g:=Nat.le_of_dvd h gL_dvd.1
theorem dl_gL {c:List Int} {d:Int} (h:0<d):dl (gL d.natAbs c:Int)≤dl d:=digN_len_le (gL_le zo)
theorem low_tab {c:List Int} {d:Int} {k:Nat} (hd:0<d) (hl:c.length=k):(tab k (fun i=>nth c i/(gL d.natAbs c:Int)),d/(gL d.natAbs c:Int))=loN c d:=by
 have e:sgG d c=(gL d.natAbs c:Int):=if_neg zo
 unfold loN
 rw[e]
 refine Prod.ext ?_ rfl
 show tab k _=c.map _
 generalize (gL d.natAbs c:Int)=G
 conv=>rhs; rw[tab_nth hl]
 simp[tab]
end Go.Fl
