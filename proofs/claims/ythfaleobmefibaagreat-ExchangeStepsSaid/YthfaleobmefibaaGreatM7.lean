/- THE LAW ExchangeSteps HOLDS FOR EVERY INPUT: whatever the arguments, the call returns true, and each argument reads behind it as before. Conditions: those of the given row (its listed variables as the program lays them). -/
import Derived.Test.YthfaleobmefibaaGreatM6
import Derived.Test.YthfaleobmefibaaGreatRows

/- THE LAW ExchangeSteps HOLDS FOR EVERY INPUT: whatever the arguments, the call returns true, and each argument reads behind it as before. Conditions: those of the given row (its listed variables as the program lays them). -/
namespace Go.Proofs.YthfaleobmefibaaGreat
open Go Go.Fl Go.RowKit Go.ChangeShapes Go.WideShapes Go.ChangeAt

theorem rdt22:C2 Tryz.prog 22 (eL eI) (Q6 (R3 .i64)):=C2.slice (C2.int (t:=3)) rfl rfl rfl
theorem rdt24t:C2 Tryz.prog 24 (eP (eL eI) (eP eI (eP eI (eP eI eU)))) (AZ (Q6 (R3 .i64)) (AZ (R3 .i64) (AZ (R3 .i64) (AZ (R3 .i64) NT)))):=by
 refine C2.struct (l:=[_,_,_,_]) Tryz.underlying24 rfl (by kernel_rfl) ?_
 refine N9.cons rdt22 (by rfl) (by rfl) (by rfl) ?_
 refine N9.cons (C2.int (t:=3)) (by rfl) (by rfl) (by rfl) ?_
 refine N9.cons (C2.int (t:=3)) (by rfl) (by rfl) (by rfl) ?_
 refine N9.cons (C2.int (t:=3)) (by rfl) (by rfl) (by rfl) ?_
 exact N9.nil
theorem rdt24:C2 Tryz.prog 24 z7 (fun _:u8=>True):=C2.conv rdt24t (fun x=>((x.1,x.2.1,x.2.2.1,x.2.2.2.1):u8)) (fun _ _ _ h=>h) (fun _ h=>trivial)
theorem rdt28:C2 Tryz.prog 28 (eL (eL eI)) (Q6 (Q6 (R3 .i64))):=C2.slice rdt22 rfl rfl rfl
theorem rdt30t:C2 Tryz.prog 30 (eP (eL (eL eI)) (eP (eL eI) eU)) (AZ (Q6 (Q6 (R3 .i64))) (AZ (Q6 (R3 .i64)) NT)):=by
 refine C2.struct (l:=[_,_]) Tryz.underlying30 rfl (by kernel_rfl) ?_
 refine N9.cons rdt28 (by rfl) (by rfl) (by rfl) ?_
 refine N9.cons rdt22 (by rfl) (by rfl) (by rfl) ?_
 exact N9.nil
theorem rdt30:C2 Tryz.prog 30 j8 BC:=C2.conv rdt30t (fun x=>((x.1,x.2.1):y3)) (fun _ _ _ h=>h) (fun _ h=>uR h.1 h.2.1)
theorem rdt25:C2 Tryz.prog 25 (eL j8) (Q6 BC):=C2.slice rdt30 rfl rfl rfl
theorem rdt27t:C2 Tryz.prog 27 (eP z7 (eP (eL eI) (eP (eL eI) (eP (eL j8) eU)))) (AZ (fun _:u8=>True) (AZ (Q6 (R3 .i64)) (AZ (Q6 (R3 .i64)) (AZ (Q6 BC) NT)))):=by
 refine C2.struct (l:=[_,_,_,_]) Tryz.underlying27 rfl (by kernel_rfl) ?_
 refine N9.cons rdt24 (by rfl) (by rfl) (by rfl) ?_
 refine N9.cons rdt22 (by rfl) (by rfl) (by rfl) ?_
 refine N9.cons rdt22 (by rfl) (by rfl) (by rfl) ?_
 refine N9.cons rdt25 (by rfl) (by rfl) (by rfl) ?_
 exact N9.nil
theorem rdt27:C2 Tryz.prog 27 eX (fun x:o0=>∀a,BC (b6 x.2.2.2 a)):=C2.conv rdt27t (fun x=>((x.1,x.2.1,x.2.2.1,x.2.2.2.1):o0)) (fun _ _ _ h=>h) (fun _ h=>uS h.2.2.2.1)
theorem own:ownKnob Tryz.prog.godebug=none:=by kernel_rfl
set_option maxRecDepth 100000 in
theorem lifted0 (os:Os) (started:os.Started) (H:Type) (enc:TypeId×Value->H) :
  ReturnsInHanded {} Tryz.checked os 8 .any (fun w args=>(Rows.exchangeStepsSpec.pre enc Tryz.prog Tryz.f8 [] false w args/\True)/\sizedMet enc Tryz.prog Tryz.f8 (OpenSpec.ofChange Rows.exchangeStepsSpec) false w args)
   (Rows.exchangeStepsSpec.post enc Tryz.prog Tryz.f8 false true false false):=by
 refine returnsInHanded_of_change_and (C:=Tryz.checked) (X:=fun _ _=>True) (fun _ _ _ _ h=>h) own started (by kernel_rfl) Tryz.func8
  (ChangeSpec.witness_shaped (enc:=enc) (C:=Tryz.checked) (os:=os) (X:=fun _ _=>True) false (World.laidAll Tryz.prog os Rows.exchangeStepsRow.laid) #[.agg #[.slice none 0 0,.int .i64 0,.int .i64 0,.int .i64 0,.slice none 0 0,.slice none 0 0,.slice none 0 0],.int .i64 0] 8 (World.laidAll_os _ _ _)
   (World.shaped_of_ZipB (by kernel_rfl) (by kernel_rfl)) (by kernel_rfl) (by kernel_rfl) (by kernel_rfl)
   trivial) ?_
 intro W base args ds gs before hval0 hW _ hwt hL _
 have hval:∀(j:Nat) t v,Tryz.f8.params[j]?=some t->args[j]?=some v->Value.okWide Tryz.prog W .any base t v:=hval0
 have hpost:∀W',Fl.Below W.heap.size W W'->Rows.exchangeStepsSpec.post enc Tryz.prog Tryz.f8 false true false false W args (.bool true) W':=fun W' hb=>vF (by kernel_rfl) (by kernel_rfl) (by kernel_rfl) hW (by kernel_rfl) rfl (fun hg=>by
  subst hg
  obtain ⟨p,q,hA0,_⟩:=hW
  have hA:DataW.TrodAll enc Tryz.prog W 0 (fun _=>true) true Tryz.f8.params.toList args.toList ds p:=hA0
  rw[Tryz.params8] at hA
  obtain ⟨v0,v1,d0,d1,_,_,rfl,rfl,_,_,_⟩:=trodAll_two hA
  rfl) rfl Tryz.underlying4 hb
 have hW0:=hW
 obtain ⟨p,q,hA0,hV,rfl,_,_⟩:=hW0
 have hA:DataW.TrodAll enc Tryz.prog W 0 (fun _=>true) true Tryz.f8.params.toList args.toList ds p:=hA0
 rw[Tryz.params8] at hA hval hwt
 obtain ⟨rfl,rfl⟩:=trodVars_none hV
 obtain ⟨v0,v1,d0,d1,_,_,rfl,rfl,_,h0,h1⟩:=trodAll_two hA
 have hwt':(DataW.weightsEach Tryz.prog [27,3] [d0,d1]).all (·<=reachBytes)=true:=hwt
 have w0:=mK hwt'
 have w1:=mK w0.2
 obtain ⟨x0,k0,r0⟩:=C2.val (by exact rdt27:C2 Tryz.prog 27 eX (fun x:o0=>∀a,BC (b6 x.2.2.2 a))) rfl (hval 0 27 v0 rfl rfl) h0 w0.1
 obtain ⟨x1,k1,r1⟩:=C2.val (by exact (C2.int (t:=3)):C2 Tryz.prog 3 eI (R3 .i64)) rfl (hval 1 3 v1 rfl rfl) h1 w1.1
 refine Ct.law (vs:=#[v0,v1]) (pA x0 x1 r0 (hH r1)) ?_ fun W' hb=>⟨_,rfl,hpost W' hb⟩
 exact ⟨k0,(vD k1),trivial⟩
theorem lifted (os:Os) (started:os.Started) (H:Type) (enc:TypeId×Value->H) :
  ReturnsInHanded {} Tryz.checked os 8 .any (fun w args=>Rows.exchangeStepsSpec.pre enc Tryz.prog Tryz.f8 [] false w args/\sizedMet enc Tryz.prog Tryz.f8 (OpenSpec.ofChange Rows.exchangeStepsSpec) false w args)
   (Rows.exchangeStepsSpec.post enc Tryz.prog Tryz.f8 false true false false):=by
 have h:=lifted0 os started H enc
 simp only[and_true] at h
 exact h
theorem holds:Rows.exchangeStepsRow.holds Tryz.pinned (OpenSpec.ofChange Rows.exchangeStepsSpec) :=
 OpenClaim.holds_of_wide 8 Tryz.f8 rfl rfl rfl rfl rfl rfl rfl ⟨rfl,rfl,rfl,rfl,rfl⟩ rfl rfl rfl rfl rfl (by kernel_rfl) Tryz.func8 (by kernel_rfl)
  (of_decide_eq_true (by kernel_rfl)) (by unfold Func.isWrapper; first | (rw[if_pos (by decide +kernel)]; kernel_rfl) | (rw[if_neg (by decide +kernel)]; exact ⟨rfl,rfl⟩))
  (fun os started H enc _=>lifted os started H enc)
theorem exchangeSteps_holds:Rows.ExchangeStepsSaid:=holds
end Go.Proofs.YthfaleobmefibaaGreat
