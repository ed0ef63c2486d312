/- THE LAW ExchangeInduces HOLDS FOR EVERY INPUT: whatever the arguments, the call returns true, and each argument reads behind it as before. Conditions: those of the given row (its listed variables as the program lays them). -/
import Derived.Test.YthfaleobmefibaaGreatM5
import Derived.Test.YthfaleobmefibaaGreatRows

/- THE LAW ExchangeInduces HOLDS FOR EVERY INPUT: whatever the arguments, the call returns true, and each argument reads behind it as before. Conditions: those of the given row (its listed variables as the program lays them). -/
namespace Go.Proofs.YthfaleobmefibaaGreat
open Go Go.Fl Go.RowKit Go.ChangeShapes Go.WideShapes Go.ChangeAt

theorem rdt22:A9 Tryz.prog 22 (eL eI) (P2 (Q8 .i64)):=A9.slice (A9.int (t:=3)) rfl rfl rfl
theorem rdt24t:A9 Tryz.prog 24 (eP (eL eI) (eP eI (eP eI (eP eI eU)))) (AH (P2 (Q8 .i64)) (AH (Q8 .i64) (AH (Q8 .i64) (AH (Q8 .i64) JP)))):=by
 refine A9.struct (l:=[_,_,_,_]) Tryz.underlying24 rfl (by kernel_rfl) ?_
 refine L9.cons rdt22 (by rfl) (by rfl) (by rfl) ?_
 refine L9.cons (A9.int (t:=3)) (by rfl) (by rfl) (by rfl) ?_
 refine L9.cons (A9.int (t:=3)) (by rfl) (by rfl) (by rfl) ?_
 refine L9.cons (A9.int (t:=3)) (by rfl) (by rfl) (by rfl) ?_
 exact L9.nil
theorem rdt24:A9 Tryz.prog 24 D1 (fun _:y8=>True):=A9.conv rdt24t (fun x=>((x.1,x.2.1,x.2.2.1,x.2.2.2.1):y8)) (fun _ _ _ h=>h) (fun _ h=>trivial)
theorem rdt28:A9 Tryz.prog 28 (eL (eL eI)) (P2 (P2 (Q8 .i64))):=A9.slice rdt22 rfl rfl rfl
theorem rdt30t:A9 Tryz.prog 30 (eP (eL (eL eI)) (eP (eL eI) eU)) (AH (P2 (P2 (Q8 .i64))) (AH (P2 (Q8 .i64)) JP)):=by
 refine A9.struct (l:=[_,_]) Tryz.underlying30 rfl (by kernel_rfl) ?_
 refine L9.cons rdt28 (by rfl) (by rfl) (by rfl) ?_
 refine L9.cons rdt22 (by rfl) (by rfl) (by rfl) ?_
 exact L9.nil
theorem rdt30:A9 Tryz.prog 30 j2 V7:=A9.conv rdt30t (fun x=>((x.1,x.2.1):s7)) (fun _ _ _ h=>h) (fun _ h=>rW h.1 h.2.1)
theorem rdt25:A9 Tryz.prog 25 (eL j2) (P2 V7):=A9.slice rdt30 rfl rfl rfl
theorem rdt27t:A9 Tryz.prog 27 (eP D1 (eP (eL eI) (eP (eL eI) (eP (eL j2) eU)))) (AH (fun _:y8=>True) (AH (P2 (Q8 .i64)) (AH (P2 (Q8 .i64)) (AH (P2 V7) JP)))):=by
 refine A9.struct (l:=[_,_,_,_]) Tryz.underlying27 rfl (by kernel_rfl) ?_
 refine L9.cons rdt24 (by rfl) (by rfl) (by rfl) ?_
 refine L9.cons rdt22 (by rfl) (by rfl) (by rfl) ?_
 refine L9.cons rdt22 (by rfl) (by rfl) (by rfl) ?_
 refine L9.cons rdt25 (by rfl) (by rfl) (by rfl) ?_
 exact L9.nil
theorem rdt27:A9 Tryz.prog 27 eX (fun x:n9=>∀a,V7 (b6 x.2.2.2 a)):=A9.conv rdt27t (fun x=>((x.1,x.2.1,x.2.2.1,x.2.2.2.1):n9)) (fun _ _ _ h=>h) (fun _ h=>rX h.2.2.2.1)
theorem own:ownKnob Tryz.prog.godebug=none:=by kernel_rfl
set_option maxRecDepth 100000 in
theorem lifted0 (os:Os) (started:os.Started) (H:Type) (enc:TypeId×Value->H) :
  ReturnsInHanded {} Tryz.checked os 11 .any (fun w args=>(Rows.exchangeInducesSpec.pre enc Tryz.prog Tryz.f11 [] false w args/\True)/\sizedMet enc Tryz.prog Tryz.f11 (OpenSpec.ofChange Rows.exchangeInducesSpec) false w args)
   (Rows.exchangeInducesSpec.post enc Tryz.prog Tryz.f11 false true false false):=by
 refine returnsInHanded_of_change_and (C:=Tryz.checked) (X:=fun _ _=>True) (fun _ _ _ _ h=>h) own started (by kernel_rfl) Tryz.func11
  (ChangeSpec.witness_shaped (enc:=enc) (C:=Tryz.checked) (os:=os) (X:=fun _ _=>True) false (World.laidAll Tryz.prog os Rows.exchangeInducesRow.laid) #[.agg #[.slice none 0 0,.int .i64 0,.int .i64 0,.int .i64 0,.slice none 0 0,.slice none 0 0,.slice none 0 0],.agg #[.slice none 0 0,.slice none 0 0]] 8 (World.laidAll_os _ _ _)
   (World.shaped_of_ZipB (by kernel_rfl) (by kernel_rfl)) (by kernel_rfl) (by kernel_rfl) (by kernel_rfl)
   trivial) ?_
 intro W base args ds gs before hval0 hW _ hwt hL _
 have hval:∀(j:Nat) t v,Tryz.f11.params[j]?=some t->args[j]?=some v->Value.okWide Tryz.prog W .any base t v:=hval0
 have hpost:∀W',Fl.Below W.heap.size W W'->Rows.exchangeInducesSpec.post enc Tryz.prog Tryz.f11 false true false false W args (.bool true) W':=fun W' hb=>sL (by kernel_rfl) (by kernel_rfl) (by kernel_rfl) hW (by kernel_rfl) rfl (fun hg=>by
  subst hg
  obtain ⟨p,q,hA0,_⟩:=hW
  have hA:DataW.TrodAll enc Tryz.prog W 0 (fun _=>true) true Tryz.f11.params.toList args.toList ds p:=hA0
  rw[Tryz.params11] at hA
  obtain ⟨v0,v1,d0,d1,_,_,rfl,rfl,_,_,_⟩:=trodAll_two hA
  rfl) rfl Tryz.underlying4 hb
 have hW0:=hW
 obtain ⟨p,q,hA0,hV,rfl,_,_⟩:=hW0
 have hA:DataW.TrodAll enc Tryz.prog W 0 (fun _=>true) true Tryz.f11.params.toList args.toList ds p:=hA0
 rw[Tryz.params11] at hA hval hwt
 obtain ⟨rfl,rfl⟩:=trodVars_none hV
 obtain ⟨v0,v1,d0,d1,_,_,rfl,rfl,_,h0,h1⟩:=trodAll_two hA
 have hwt':(DataW.weightsEach Tryz.prog [27,30] [d0,d1]).all (·<=reachBytes)=true:=hwt
 have w0:=jX hwt'
 have w1:=jX w0.2
 obtain ⟨x0,k0,r0⟩:=A9.val (by exact rdt27:A9 Tryz.prog 27 eX (fun x:n9=>∀a,V7 (b6 x.2.2.2 a))) rfl (hval 0 27 v0 rfl rfl) h0 w0.1
 obtain ⟨x1,k1,r1⟩:=A9.val (by exact rdt30:A9 Tryz.prog 30 j2 V7) rfl (hval 1 30 v1 rfl rfl) h1 w1.1
 refine Ct.law (vs:=#[v0,v1]) (mN x0 x1 r0 r1) ?_ fun W' hb=>⟨_,rfl,hpost W' hb⟩
 exact ⟨k0,k1,trivial⟩
theorem lifted (os:Os) (started:os.Started) (H:Type) (enc:TypeId×Value->H) :
  ReturnsInHanded {} Tryz.checked os 11 .any (fun w args=>Rows.exchangeInducesSpec.pre enc Tryz.prog Tryz.f11 [] false w args/\sizedMet enc Tryz.prog Tryz.f11 (OpenSpec.ofChange Rows.exchangeInducesSpec) false w args)
   (Rows.exchangeInducesSpec.post enc Tryz.prog Tryz.f11 false true false false):=by
 have h:=lifted0 os started H enc
 simp only[and_true] at h
 exact h
theorem holds:Rows.exchangeInducesRow.holds Tryz.pinned (OpenSpec.ofChange Rows.exchangeInducesSpec) :=
 OpenClaim.holds_of_wide 11 Tryz.f11 rfl rfl rfl rfl rfl rfl rfl ⟨rfl,rfl,rfl,rfl,rfl⟩ rfl rfl rfl rfl rfl (by kernel_rfl) Tryz.func11 (by kernel_rfl)
  (of_decide_eq_true (by kernel_rfl)) (by unfold Func.isWrapper; first | (rw[if_pos (by decide +kernel)]; kernel_rfl) | (rw[if_neg (by decide +kernel)]; exact ⟨rfl,rfl⟩))
  (fun os started H enc _=>lifted os started H enc)
theorem exchangeInduces_holds:Rows.ExchangeInducesSaid:=holds
end Go.Proofs.YthfaleobmefibaaGreat
