/- THE LAW ExchangePaths HOLDS FOR EVERY INPUT: whatever the arguments, the call returns true, and each argument reads behind it as before. Conditions: those of the given row (its listed variables as the program lays them). -/
import Derived.Test.YthfaleobmefibaaGreatM5
import Derived.Test.YthfaleobmefibaaGreatRows

/- THE LAW ExchangePaths HOLDS FOR EVERY INPUT: whatever the arguments, the call returns true, and each argument reads behind it as before. Conditions: those of the given row (its listed variables as the program lays them). -/
namespace Go.Proofs.YthfaleobmefibaaGreat
open Go Go.Fl Go.RowKit Go.ChangeShapes Go.WideShapes Go.ChangeAt

theorem rdt22:E8 Tryz.prog 22 (eL eI) (BR (BF .i64)):=E8.slice (E8.int (t:=3)) rfl rfl rfl
theorem rdt88t:E8 Tryz.prog 88 (eP (eL eI) (eP (eL eI) eU)) (PT (BR (BF .i64)) (PT (BR (BF .i64)) VT)):=by
 refine E8.struct (l:=[_,_]) Tryz.underlying88 rfl (by kernel_rfl) ?_
 refine BQ.cons rdt22 (by rfl) (by rfl) (by rfl) ?_
 refine BQ.cons rdt22 (by rfl) (by rfl) (by rfl) ?_
 exact BQ.nil
theorem rdt88:E8 Tryz.prog 88 eO (fun o:l8=>BR (BF .i64) o.1/\BR (BF .i64) o.2):=E8.conv rdt88t (fun x=>((x.1,x.2.1):l8)) (fun _ _ _ h=>h) (fun _ h=>⟨h.1,h.2.1⟩)
theorem own:ownKnob Tryz.prog.godebug=none:=by kernel_rfl
set_option maxRecDepth 100000 in
theorem lifted0 (os:Os) (started:os.Started) (H:Type) (enc:TypeId×Value->H) :
  ReturnsInHanded {} Tryz.checked os 9 .any (fun w args=>(Rows.exchangePathsSpec.pre enc Tryz.prog Tryz.f9 [] false w args/\True)/\sizedMet enc Tryz.prog Tryz.f9 (OpenSpec.ofChange Rows.exchangePathsSpec) false w args)
   (Rows.exchangePathsSpec.post enc Tryz.prog Tryz.f9 false true false false):=by
 refine returnsInHanded_of_change_and (C:=Tryz.checked) (X:=fun _ _=>True) (fun _ _ _ _ h=>h) own started (by kernel_rfl) Tryz.func9
  (ChangeSpec.witness_shaped (enc:=enc) (C:=Tryz.checked) (os:=os) (X:=fun _ _=>True) false (World.laidAll Tryz.prog os Rows.exchangePathsRow.laid) #[.agg #[.slice none 0 0,.slice none 0 0],.int .i64 0,.slice none 0 0] 8 (World.laidAll_os _ _ _)
   (World.shaped_of_ZipB (by kernel_rfl) (by kernel_rfl)) (by kernel_rfl) (by kernel_rfl) (by kernel_rfl)
   trivial) ?_
 intro W base args ds gs before hval0 hW _ hwt hL _
 have hval:∀(j:Nat) t v,Tryz.f9.params[j]?=some t->args[j]?=some v->Value.okWide Tryz.prog W .any base t v:=hval0
 have hpost:∀W',Fl.Below W.heap.size W W'->Rows.exchangePathsSpec.post enc Tryz.prog Tryz.f9 false true false false W args (.bool true) W':=fun W' hb=>pP (by kernel_rfl) (by kernel_rfl) (by kernel_rfl) hW (by kernel_rfl) rfl (fun hg=>by
  subst hg
  obtain ⟨p,q,hA0,_⟩:=hW
  have hA:DataW.TrodAll enc Tryz.prog W 0 (fun _=>true) true Tryz.f9.params.toList args.toList ds p:=hA0
  rw[Tryz.params9] at hA
  obtain ⟨v0,v1,v2,d0,d1,d2,_,_,_,rfl,rfl,_,_,_,_⟩:=trodAll_three hA
  rfl) rfl Tryz.underlying4 hb
 have hW0:=hW
 obtain ⟨p,q,hA0,hV,rfl,_,_⟩:=hW0
 have hA:DataW.TrodAll enc Tryz.prog W 0 (fun _=>true) true Tryz.f9.params.toList args.toList ds p:=hA0
 rw[Tryz.params9] at hA hval hwt
 obtain ⟨rfl,rfl⟩:=trodVars_none hV
 obtain ⟨v0,v1,v2,d0,d1,d2,_,_,_,rfl,rfl,_,h0,h1,h2⟩:=trodAll_three hA
 have hwt':(DataW.weightsEach Tryz.prog [88,3,22] [d0,d1,d2]).all (·<=reachBytes)=true:=hwt
 have w0:=VJ hwt'
 have w1:=VJ w0.2
 have w2:=VJ w1.2
 obtain ⟨x0,k0,r0⟩:=E8.val (by exact rdt88:E8 Tryz.prog 88 eO (fun o:l8=>BR (BF .i64) o.1/\BR (BF .i64) o.2)) rfl (hval 0 88 v0 rfl rfl) h0 w0.1
 obtain ⟨x1,k1,r1⟩:=E8.val (by exact (E8.int (t:=3)):E8 Tryz.prog 3 eI (BF .i64)) rfl (hval 1 3 v1 rfl rfl) h1 w1.1
 obtain ⟨x2,k2,r2⟩:=E8.val (by exact rdt22:E8 Tryz.prog 22 (eL eI) (BR (BF .i64))) rfl (hval 2 22 v2 rfl rfl) h2 w2.1
 refine Ct.law (vs:=#[v0,v1,v2]) (jU x0 x1 x2) ?_ fun W' hb=>⟨_,rfl,hpost W' hb⟩
 exact ⟨k0,(pN k1),k2,trivial⟩
theorem lifted (os:Os) (started:os.Started) (H:Type) (enc:TypeId×Value->H) :
  ReturnsInHanded {} Tryz.checked os 9 .any (fun w args=>Rows.exchangePathsSpec.pre enc Tryz.prog Tryz.f9 [] false w args/\sizedMet enc Tryz.prog Tryz.f9 (OpenSpec.ofChange Rows.exchangePathsSpec) false w args)
   (Rows.exchangePathsSpec.post enc Tryz.prog Tryz.f9 false true false false):=by
 have h:=lifted0 os started H enc
 simp only[and_true] at h
 exact h
theorem holds:Rows.exchangePathsRow.holds Tryz.pinned (OpenSpec.ofChange Rows.exchangePathsSpec) :=
 OpenClaim.holds_of_wide 9 Tryz.f9 rfl rfl rfl rfl rfl rfl rfl ⟨rfl,rfl,rfl,rfl,rfl⟩ rfl rfl rfl rfl rfl (by kernel_rfl) Tryz.func9 (by kernel_rfl)
  (of_decide_eq_true (by kernel_rfl)) (by unfold Func.isWrapper; first | (rw[if_pos (by decide +kernel)]; kernel_rfl) | (rw[if_neg (by decide +kernel)]; exact ⟨rfl,rfl⟩))
  (fun os started H enc _=>lifted os started H enc)
theorem exchangePaths_holds:Rows.ExchangePathsSaid:=holds
end Go.Proofs.YthfaleobmefibaaGreat
