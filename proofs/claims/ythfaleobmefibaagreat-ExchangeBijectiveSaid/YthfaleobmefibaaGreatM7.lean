/- THE LAW ExchangeBijective HOLDS FOR EVERY INPUT: whatever the arguments, the call returns true, and each argument reads behind it as before. Conditions: those of the given row (its listed variables as the program lays them). -/
import Derived.Test.YthfaleobmefibaaGreatM6
import Derived.Test.YthfaleobmefibaaGreatRows

/- THE LAW ExchangeBijective HOLDS FOR EVERY INPUT: whatever the arguments, the call returns true, and each argument reads behind it as before. Conditions: those of the given row (its listed variables as the program lays them). -/
namespace Go.Proofs.YthfaleobmefibaaGreat
open Go Go.Fl Go.RowKit Go.ChangeShapes Go.WideShapes Go.ChangeAt

theorem rdt22:RdT Tryz.prog 22 (eL eI) (ListP (okI .i64)):=RdT.slice (RdT.int (t:=3)) rfl rfl rfl
theorem rdt24t:RdT Tryz.prog 24 (eP (eL eI) (eP eI (eP eI (eP eI eU)))) (AndP (ListP (okI .i64)) (AndP (okI .i64) (AndP (okI .i64) (AndP (okI .i64) UnitP)))):=by
 refine RdT.struct (l:=[_,_,_,_]) Tryz.underlying24 rfl (by kernel_rfl) ?_
 refine FldT.cons rdt22 (by rfl) (by rfl) (by rfl) ?_
 refine FldT.cons (RdT.int (t:=3)) (by rfl) (by rfl) (by rfl) ?_
 refine FldT.cons (RdT.int (t:=3)) (by rfl) (by rfl) (by rfl) ?_
 refine FldT.cons (RdT.int (t:=3)) (by rfl) (by rfl) (by rfl) ?_
 exact FldT.nil
theorem rdt24:RdT Tryz.prog 24 eFd (fun _:FdT=>True):=RdT.conv rdt24t (fun x=>((x.1,x.2.1,x.2.2.1,x.2.2.2.1):FdT)) (fun _ _ _ h=>h) (fun _ h=>trivial)
theorem rdt28:RdT Tryz.prog 28 (eL (eL eI)) (ListP (ListP (okI .i64))):=RdT.slice rdt22 rfl rfl rfl
theorem rdt30t:RdT Tryz.prog 30 (eP (eL (eL eI)) (eP (eL eI) eU)) (AndP (ListP (ListP (okI .i64))) (AndP (ListP (okI .i64)) UnitP)):=by
 refine RdT.struct (l:=[_,_]) Tryz.underlying30 rfl (by kernel_rfl) ?_
 refine FldT.cons rdt28 (by rfl) (by rfl) (by rfl) ?_
 refine FldT.cons rdt22 (by rfl) (by rfl) (by rfl) ?_
 exact FldT.nil
theorem rdt30:RdT Tryz.prog 30 eNum InN:=RdT.conv rdt30t (fun x=>((x.1,x.2.1):NumT)) (fun _ _ _ h=>h) (fun _ h=>in_num h.1 h.2.1)
theorem rdt25:RdT Tryz.prog 25 (eL eNum) (ListP InN):=RdT.slice rdt30 rfl rfl rfl
theorem rdt27t:RdT Tryz.prog 27 (eP eFd (eP (eL eI) (eP (eL eI) (eP (eL eNum) eU)))) (AndP (fun _:FdT=>True) (AndP (ListP (okI .i64)) (AndP (ListP (okI .i64)) (AndP (ListP InN) UnitP)))):=by
 refine RdT.struct (l:=[_,_,_,_]) Tryz.underlying27 rfl (by kernel_rfl) ?_
 refine FldT.cons rdt24 (by rfl) (by rfl) (by rfl) ?_
 refine FldT.cons rdt22 (by rfl) (by rfl) (by rfl) ?_
 refine FldT.cons rdt22 (by rfl) (by rfl) (by rfl) ?_
 refine FldT.cons rdt25 (by rfl) (by rfl) (by rfl) ?_
 exact FldT.nil
theorem rdt27:RdT Tryz.prog 27 eX (fun x:ExT=>∀a,InN (nth x.2.2.2 a)):=RdT.conv rdt27t (fun x=>((x.1,x.2.1,x.2.2.1,x.2.2.2.1):ExT)) (fun _ _ _ h=>h) (fun _ h=>in_nums h.2.2.2.1)
theorem own:ownKnob Tryz.prog.godebug=none:=by kernel_rfl
set_option maxRecDepth 100000 in
theorem lifted0 (os:Os) (started:os.Started) (H:Type) (enc:TypeId×Value→H) :
  ReturnsInHanded {} Tryz.checked os 5 .any (fun w args=>(Rows.exchangeBijectiveSpec.pre enc Tryz.prog Tryz.f5 [] false w args∧True)∧sizedMet enc Tryz.prog Tryz.f5 (OpenSpec.ofChange Rows.exchangeBijectiveSpec) false w args)
   (Rows.exchangeBijectiveSpec.post enc Tryz.prog Tryz.f5 false true false false):=by
 refine returnsInHanded_of_change_and (C:=Tryz.checked) (X:=fun _ _=>True) (fun _ _ _ _ h=>h) own started (by kernel_rfl) Tryz.func5
  (ChangeSpec.witness_shaped (enc:=enc) (C:=Tryz.checked) (os:=os) (X:=fun _ _=>True) false (World.laidAll Tryz.prog os Rows.exchangeBijectiveRow.laid) #[.agg #[.slice none 0 0,.int .i64 0,.int .i64 0,.int .i64 0,.slice none 0 0,.slice none 0 0,.slice none 0 0],.agg #[.slice none 0 0,.slice none 0 0],.agg #[.slice none 0 0,.slice none 0 0]] 8 (World.laidAll_os _ _ _)
   (World.shaped_of_ZipB (by kernel_rfl) (by kernel_rfl)) (by kernel_rfl) (by kernel_rfl) (by kernel_rfl)
   trivial) ?_
 intro W base args ds gs before hval0 hW _ hwt hL _
 have hval:∀(j:Nat) t v,Tryz.f5.params[j]?=some t→args[j]?=some v→Value.okWide Tryz.prog W .any base t v:=hval0
 have hpost:∀W',Fl.Below W.heap.size W W'→Rows.exchangeBijectiveSpec.post enc Tryz.prog Tryz.f5 false true false false W args (.bool true) W':=fun W' hb=>law_post (by kernel_rfl) (by kernel_rfl) (by kernel_rfl) hW (by kernel_rfl) rfl (fun hg=>by
  subst hg
  obtain ⟨p,q,hA0,_⟩:=hW
  have hA:DataW.TrodAll enc Tryz.prog W 0 (fun _=>true) true Tryz.f5.params.toList args.toList ds p:=hA0
  rw[Tryz.params5] at hA
  obtain ⟨v0,v1,v2,d0,d1,d2,_,_,_,rfl,rfl,_,_,_,_⟩:=trodAll_three hA
  rfl) rfl Tryz.underlying4 hb
 have hW0:=hW
 obtain ⟨p,q,hA0,hV,rfl,_,_⟩:=hW0
 have hA:DataW.TrodAll enc Tryz.prog W 0 (fun _=>true) true Tryz.f5.params.toList args.toList ds p:=hA0
 rw[Tryz.params5] at hA hval hwt
 obtain ⟨rfl,rfl⟩:=trodVars_none hV
 obtain ⟨v0,v1,v2,d0,d1,d2,_,_,_,rfl,rfl,_,h0,h1,h2⟩:=trodAll_three hA
 have hwt':(DataW.weightsEach Tryz.prog [27,30,30] [d0,d1,d2]).all (·≤reachBytes)=true:=hwt
 have w0:=weights_cons hwt'
 have w1:=weights_cons w0.2
 have w2:=weights_cons w1.2
 obtain ⟨x0,k0,r0⟩:=RdT.val (by exact rdt27:RdT Tryz.prog 27 eX (fun x:ExT=>∀a,InN (nth x.2.2.2 a))) rfl (hval 0 27 v0 rfl rfl) h0 w0.1
 obtain ⟨x1,k1,r1⟩:=RdT.val (by exact rdt30:RdT Tryz.prog 30 eNum InN) rfl (hval 1 30 v1 rfl rfl) h1 w1.1
 obtain ⟨x2,k2,r2⟩:=RdT.val (by exact rdt30:RdT Tryz.prog 30 eNum InN) rfl (hval 2 30 v2 rfl rfl) h2 w2.1
 refine Ct.law (vs:=#[v0,v1,v2]) (ct_ExchangeBijective x0 x1 x2 r0 r1 r2) ?_ fun W' hb=>⟨_,rfl,hpost W' hb⟩
 exact ⟨k0,k1,k2,trivial⟩
theorem lifted (os:Os) (started:os.Started) (H:Type) (enc:TypeId×Value→H) :
  ReturnsInHanded {} Tryz.checked os 5 .any (fun w args=>Rows.exchangeBijectiveSpec.pre enc Tryz.prog Tryz.f5 [] false w args∧sizedMet enc Tryz.prog Tryz.f5 (OpenSpec.ofChange Rows.exchangeBijectiveSpec) false w args)
   (Rows.exchangeBijectiveSpec.post enc Tryz.prog Tryz.f5 false true false false):=by
 have h:=lifted0 os started H enc
 simp only[and_true] at h
 exact h
theorem holds:Rows.exchangeBijectiveRow.holds Tryz.pinned (OpenSpec.ofChange Rows.exchangeBijectiveSpec) :=
 OpenClaim.holds_of_wide 5 Tryz.f5 rfl rfl rfl rfl rfl rfl rfl ⟨rfl,rfl,rfl,rfl,rfl⟩ rfl rfl rfl rfl rfl (by kernel_rfl) Tryz.func5 (by kernel_rfl)
  (of_decide_eq_true (by kernel_rfl)) (by unfold Func.isWrapper; first | (rw[if_pos (by decide +kernel)]; kernel_rfl) | (rw[if_neg (by decide +kernel)]; exact ⟨rfl,rfl⟩))
  (fun os started H enc _=>lifted os started H enc)
theorem exchangeBijective_holds:Rows.ExchangeBijectiveSaid:=holds
end Go.Proofs.YthfaleobmefibaaGreat
