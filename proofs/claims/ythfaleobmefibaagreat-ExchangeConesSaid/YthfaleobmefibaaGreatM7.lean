/- THE LAW ExchangeCones HOLDS FOR EVERY INPUT: whatever the arguments, the call returns true, and each argument reads behind it as before. Conditions: those of the given row (its listed variables as the program lays them). -/
import Derived.Test.YthfaleobmefibaaGreatM6
import Derived.Test.YthfaleobmefibaaGreatRows

/- THE LAW ExchangeCones HOLDS FOR EVERY INPUT: whatever the arguments, the call returns true, and each argument reads behind it as before. Conditions: those of the given row (its listed variables as the program lays them). -/
namespace Go.Proofs.YthfaleobmefibaaGreat
open Go Go.Fl Go.RowKit Go.ChangeShapes Go.WideShapes Go.ChangeAt

theorem rdt22:C4 Tryz.prog 22 (eL eI) (P6 (S8 .i64)):=C4.slice (C4.int (t:=3)) rfl rfl rfl
theorem rdt24t:C4 Tryz.prog 24 (eP (eL eI) (eP eI (eP eI (eP eI eU)))) (BG (P6 (S8 .i64)) (BG (S8 .i64) (BG (S8 .i64) (BG (S8 .i64) OH)))):=by
 refine C4.struct (l:=[_,_,_,_]) Tryz.underlying24 rfl (by kernel_rfl) ?_
 refine O3.cons rdt22 (by rfl) (by rfl) (by rfl) ?_
 refine O3.cons (C4.int (t:=3)) (by rfl) (by rfl) (by rfl) ?_
 refine O3.cons (C4.int (t:=3)) (by rfl) (by rfl) (by rfl) ?_
 refine O3.cons (C4.int (t:=3)) (by rfl) (by rfl) (by rfl) ?_
 exact O3.nil
theorem rdt24:C4 Tryz.prog 24 A8 (fun _:u8=>True):=C4.conv rdt24t (fun x=>((x.1,x.2.1,x.2.2.1,x.2.2.2.1):u8)) (fun _ _ _ h=>h) (fun _ h=>trivial)
theorem rdt28:C4 Tryz.prog 28 (eL (eL eI)) (P6 (P6 (S8 .i64))):=C4.slice rdt22 rfl rfl rfl
theorem rdt30t:C4 Tryz.prog 30 (eP (eL (eL eI)) (eP (eL eI) eU)) (BG (P6 (P6 (S8 .i64))) (BG (P6 (S8 .i64)) OH)):=by
 refine C4.struct (l:=[_,_]) Tryz.underlying30 rfl (by kernel_rfl) ?_
 refine O3.cons rdt28 (by rfl) (by rfl) (by rfl) ?_
 refine O3.cons rdt22 (by rfl) (by rfl) (by rfl) ?_
 exact O3.nil
theorem rdt30:C4 Tryz.prog 30 j7 BI:=C4.conv rdt30t (fun x=>((x.1,x.2.1):s5)) (fun _ _ _ h=>h) (fun _ h=>vY h.1 h.2.1)
theorem rdt25:C4 Tryz.prog 25 (eL j7) (P6 BI):=C4.slice rdt30 rfl rfl rfl
theorem rdt27t:C4 Tryz.prog 27 (eP A8 (eP (eL eI) (eP (eL eI) (eP (eL j7) eU)))) (BG (fun _:u8=>True) (BG (P6 (S8 .i64)) (BG (P6 (S8 .i64)) (BG (P6 BI) OH)))):=by
 refine C4.struct (l:=[_,_,_,_]) Tryz.underlying27 rfl (by kernel_rfl) ?_
 refine O3.cons rdt24 (by rfl) (by rfl) (by rfl) ?_
 refine O3.cons rdt22 (by rfl) (by rfl) (by rfl) ?_
 refine O3.cons rdt22 (by rfl) (by rfl) (by rfl) ?_
 refine O3.cons rdt25 (by rfl) (by rfl) (by rfl) ?_
 exact O3.nil
theorem rdt27:C4 Tryz.prog 27 eX (fun x:o8=>∀a,BI (b6 x.2.2.2 a)):=C4.conv rdt27t (fun x=>((x.1,x.2.1,x.2.2.1,x.2.2.2.1):o8)) (fun _ _ _ h=>h) (fun _ h=>vZ h.2.2.2.1)
theorem own:ownKnob Tryz.prog.godebug=none:=by kernel_rfl
set_option maxRecDepth 100000 in
theorem lifted0 (os:Os) (started:os.Started) (H:Type) (enc:TypeId×Value->H) :
  ReturnsInHanded {} Tryz.checked os 10 .any (fun w args=>(Rows.exchangeConesSpec.pre enc Tryz.prog Tryz.f10 [] false w args/\True)/\sizedMet enc Tryz.prog Tryz.f10 (OpenSpec.ofChange Rows.exchangeConesSpec) false w args)
   (Rows.exchangeConesSpec.post enc Tryz.prog Tryz.f10 false true false false):=by
 refine returnsInHanded_of_change_and (C:=Tryz.checked) (X:=fun _ _=>True) (fun _ _ _ _ h=>h) own started (by kernel_rfl) Tryz.func10
  (ChangeSpec.witness_shaped (enc:=enc) (C:=Tryz.checked) (os:=os) (X:=fun _ _=>True) false (World.laidAll Tryz.prog os Rows.exchangeConesRow.laid) #[.agg #[.slice none 0 0,.int .i64 0,.int .i64 0,.int .i64 0,.slice none 0 0,.slice none 0 0,.slice none 0 0],.slice none 0 0] 8 (World.laidAll_os _ _ _)
   (World.shaped_of_ZipB (by kernel_rfl) (by kernel_rfl)) (by kernel_rfl) (by kernel_rfl) (by kernel_rfl)
   trivial) ?_
 intro W base args ds gs before hval0 hW _ hwt hL _
 have hval:∀(j:Nat) t v,Tryz.f10.params[j]?=some t->args[j]?=some v->Value.okWide Tryz.prog W .any base t v:=hval0
 have hpost:∀W',Fl.Below W.heap.size W W'->Rows.exchangeConesSpec.post enc Tryz.prog Tryz.f10 false true false false W args (.bool true) W':=fun W' hb=>wJ (by kernel_rfl) (by kernel_rfl) (by kernel_rfl) hW (by kernel_rfl) rfl (fun hg=>by
  subst hg
  obtain ⟨p,q,hA0,_⟩:=hW
  have hA:DataW.TrodAll enc Tryz.prog W 0 (fun _=>true) true Tryz.f10.params.toList args.toList ds p:=hA0
  rw[Tryz.params10] at hA
  obtain ⟨v0,v1,d0,d1,_,_,rfl,rfl,_,_,_⟩:=trodAll_two hA
  rfl) rfl Tryz.underlying4 hb
 have hW0:=hW
 obtain ⟨p,q,hA0,hV,rfl,_,_⟩:=hW0
 have hA:DataW.TrodAll enc Tryz.prog W 0 (fun _=>true) true Tryz.f10.params.toList args.toList ds p:=hA0
 rw[Tryz.params10] at hA hval hwt
 obtain ⟨rfl,rfl⟩:=trodVars_none hV
 obtain ⟨v0,v1,d0,d1,_,_,rfl,rfl,_,h0,h1⟩:=trodAll_two hA
 have hwt':(DataW.weightsEach Tryz.prog [27,22] [d0,d1]).all (·<=reachBytes)=true:=hwt
 have w0:=nF hwt'
 have w1:=nF w0.2
 obtain ⟨x0,k0,r0⟩:=C4.val (by exact rdt27:C4 Tryz.prog 27 eX (fun x:o8=>∀a,BI (b6 x.2.2.2 a))) rfl (hval 0 27 v0 rfl rfl) h0 w0.1
 obtain ⟨x1,k1,r1⟩:=C4.val (by exact rdt22:C4 Tryz.prog 22 (eL eI) (P6 (S8 .i64))) rfl (hval 1 22 v1 rfl rfl) h1 w1.1
 refine Ct.law (vs:=#[v0,v1]) (pY x0 x1 r0) ?_ fun W' hb=>⟨_,rfl,hpost W' hb⟩
 exact ⟨k0,k1,trivial⟩
theorem lifted (os:Os) (started:os.Started) (H:Type) (enc:TypeId×Value->H) :
  ReturnsInHanded {} Tryz.checked os 10 .any (fun w args=>Rows.exchangeConesSpec.pre enc Tryz.prog Tryz.f10 [] false w args/\sizedMet enc Tryz.prog Tryz.f10 (OpenSpec.ofChange Rows.exchangeConesSpec) false w args)
   (Rows.exchangeConesSpec.post enc Tryz.prog Tryz.f10 false true false false):=by
 have h:=lifted0 os started H enc
 simp only[and_true] at h
 exact h
theorem holds:Rows.exchangeConesRow.holds Tryz.pinned (OpenSpec.ofChange Rows.exchangeConesSpec) :=
 OpenClaim.holds_of_wide 10 Tryz.f10 rfl rfl rfl rfl rfl rfl rfl ⟨rfl,rfl,rfl,rfl,rfl⟩ rfl rfl rfl rfl rfl (by kernel_rfl) Tryz.func10 (by kernel_rfl)
  (of_decide_eq_true (by kernel_rfl)) (by unfold Func.isWrapper; first | (rw[if_pos (by decide +kernel)]; kernel_rfl) | (rw[if_neg (by decide +kernel)]; exact ⟨rfl,rfl⟩))
  (fun os started H enc _=>lifted os started H enc)
theorem exchangeCones_holds:Rows.ExchangeConesSaid:=holds
end Go.Proofs.YthfaleobmefibaaGreat
