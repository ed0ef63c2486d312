/- THE LAW OrigamiStrata HOLDS FOR EVERY INPUT: whatever the arguments, the call returns true, and each argument reads behind it as before. Conditions: those of the given row (its listed variables as the program lays them). -/
import Derived.Test.YtphkjcmonjbpfaaM4
import Derived.Test.YtphkjcmonjbpfaaRows

/- Automorphisms, and the quotient by them. Plain Lean, no program in sight. -/
namespace Go.Fl
theorem ap_thn {f g : List Int} {n : Nat} (hl : f.length = n) {x : Int} (hx : Sq n x) : ap (thenL f g) x = ap g (ap f x) := by
  have := hx.1; have := hx.2
  unfold ap thenL
  rw [nth_tab (by omega)]
theorem inR_of_ap {f : List Int} {n m : Nat} (hl : f.length = n) (h : ∀ x, Sq n x → Sq m (ap f x)) : inR f m := fun i hi => by
  have := h (i : Int) (Sq.nat (by rw [← hl]; exact hi))
  simpa [ap, Sq] using this
theorem hom_comp {a b c : Ori} (va : Valid a) {f g : List Int} (hf : IsHom a b f) (hg : IsHom b c g) : IsHom a c (thenL f g) := by
  have e := fun {x} (hx : Sq a.1.length x) => ap_thn (g := g) hf.len hx
  refine ⟨by rw [thenL_len]; exact hf.len, inR_of_ap (n := a.1.length) (by rw [thenL_len]; exact hf.len) fun x hx => by rw [e hx]; exact hg.sq (hf.sq hx), fun x hx => ?_, fun x hx => ?_⟩
  · rw [e (va.pR.aps hx), e hx, hf.R x hx, hg.R _ (hf.sq hx)]
  · rw [e (va.pU.aps hx), e hx, hf.U x hx, hg.U _ (hf.sq hx)]
section
variable {o : Ori}
/-- A map between origamis meets every square, if the other one is connected. -/
theorem hom_onto {a b : Ori} (va : Valid a) (vb : Valid b) (cb : Conn b) {f : List Int} (h : IsHom a b f) {y : Int} (hy : Sq b.1.length y) : ∃ x, Sq a.1.length x ∧ ap f x = y := by
  have hp := va.pos
  have h0 : Sq a.1.length 0 := ⟨by omega, by omega⟩
  have hs := h.sq h0
  refine reach_min (G := fun y => ∃ x, Sq a.1.length x ∧ ap f x = y) vb hs (fun z _ hz => ?_) ⟨0, h0, rfl⟩ y (cb.all vb hs hy)
  obtain ⟨x, hx, rfl⟩ := hz
  exact ⟨⟨_, va.pR.aps hx, h.R x hx⟩, ⟨_, va.pU.aps hx, h.U x hx⟩⟩
/-- A list of n numbers below n that meets all of them. -/
theorem onto_sec {f : List Int} {n : Nat} (hl : f.length = n) (h : ∀ y, Sq n y → ∃ x, Sq n x ∧ ap f x = y) : ∃ g, Perm g n ∧ (∀ y, Sq n y → ap f (ap g y) = y) ∧ ∀ x, Sq n x → ap g (ap f x) = x := by
  have hmem : ∀ y, Sq n y → y ∈ f := fun y hy => by
    obtain ⟨x, hx, rfl⟩ := h y hy
    exact nth_mem (by have := hx.1; have := hx.2; omega)
  have hg : ∀ y, Sq n y → ap (tab n fun i : Nat => atL f i) y = atL f y := fun y hy => by
    have := hy.1; have := hy.2
    unfold ap
    rw [nth_tab (by omega), show ((y.toNat : Nat) : Int) = y by omega]
  have hfg : ∀ y, Sq n y → ap f (ap (tab n fun i : Nat => atL f i) y) = y := fun y hy => by rw [hg y hy]; exact nth_atL (hmem y hy)
  have hrg : ∀ y, Sq n y → Sq n (ap (tab n fun i : Nat => atL f i) y) := fun y hy => by
    rw [hg y hy]; have := atL_rng (hmem y hy); rw [hl] at this; exact this
  have P : Perm (tab n fun i : Nat => atL f i) n := by
    refine ⟨nodup_of_nth fun i j hi hj e => ?_, inR_of_ap tab_len hrg, tab_len⟩
    rw [tab_len] at hi hj
    have e1 := hfg i (Sq.nat hi)
    have e2 := hfg j (Sq.nat hj)
    unfold ap at e1 e2
    simp only [Int.toNat_natCast] at e1 e2
    rw [e] at e1
    omega
  refine ⟨_, P, hfg, fun x hx => ?_⟩
  obtain ⟨y, hy, rfl⟩ := P.onto hx
  rw [hfg y hy]
/-- An automorphism has an inverse. -/
theorem aut_inv (v : Valid o) (c : Conn o) {f : List Int} (h : IsHom o o f) : ∃ g, IsHom o o g ∧ ∀ x, Sq o.1.length x → ap g (ap f x) = x := by
  obtain ⟨g, P, h1, h2⟩ := onto_sec h.len fun y hy => hom_onto v v c h hy
  refine ⟨g, ⟨P.ln, P.rg, fun x hx => ?_, fun x hx => ?_⟩, h2⟩
  · have e := h.R _ (P.aps hx)
    rw [h1 x hx] at e
    rw [← e, h2 _ (v.pR.aps (P.aps hx))]
  · have e := h.U _ (P.aps hx)
    rw [h1 x hx] at e
    rw [← e, h2 _ (v.pU.aps (P.aps hx))]
def Rel (o : Ori) (x y : Int) : Prop := ∃ f, IsHom o o f ∧ ap f x = y
theorem Rel.symm (v : Valid o) (c : Conn o) {x y : Int} (hx : Sq o.1.length x) (h : Rel o x y) : Rel o y x := by
  obtain ⟨f, hf, rfl⟩ := h
  obtain ⟨g, hg, e⟩ := aut_inv v c hf
  exact ⟨g, hg, e x hx⟩
theorem Rel.trans (v : Valid o) {x y z : Int} (hx : Sq o.1.length x) (h : Rel o x y) (k : Rel o y z) : Rel o x z := by
  obtain ⟨f, hf, rfl⟩ := h
  obtain ⟨g, hg, rfl⟩ := k
  exact ⟨_, hom_comp v hf hg, ap_thn hf.len hx⟩
/-! ### The least of a class -/
def mnL (A : List (List Int)) (x : Int) : Nat → Int
  | 0 => x
  | i + 1 => min (mnL A x i) (ap (nth A i) x)
noncomputable def mnO (o : Ori) (x : Int) : Int := mnL (mapsL o o) x (mapsL o o).length
/-! ### The classes -/
noncomputable def frs (o : Ori) : Nat → List Int
  | 0 => []
  | k + 1 => if mnO o k = k then frs o k ++ [(k : Int)] else frs o k
noncomputable def clsTo (o : Ori) (k : Nat) : List Int := tab o.1.length fun y : Nat => atL (frs o k) (mnO o y)
noncomputable def clsIn (o : Ori) (k i : Nat) : List Int := tab o.1.length fun y : Nat => if (y : Int) ∈ ((mapsL o o).take i).map (ap · k) then ((frs o k).length : Int) else atL (frs o k) (mnO o y)
noncomputable def cls (o : Ori) : List Int := clsTo o o.1.length
noncomputable def quoF (o : Ori) (p : List Int) (i : Nat) : Int := ap (cls o) (ap p (nth (frs o o.1.length) i))
noncomputable def quoO (o : Ori) : Ori := (tab (frs o o.1.length).length (quoF o o.1), tab (frs o o.1.length).length (quoF o o.2))
/-! ### The number of automorphisms divides that of the squares -/
end
end Go.Fl

/- Elements of an array of the call's own at a place that is not written out; parts of the elements of a row of the call's own. No program in sight. -/
namespace Go.Fl
open Go Go.RowKit
/-- A pointer to cell o of element i (of n cells) of one of the call's own rows, which has len elements. -/
def kElO (t n i len o : Nat) : Know := fun g v => i < len ∧ ∃ b cap, g.M t = some (.blk b cap) ∧ v = .pointer (some ⟨b, i * n + o, none⟩)
instance (t n i l o : Nat) : KDep (kElO t n i l o) [t] := ⟨fun _ hd ⟨h0, b, cap, h1, h2⟩ => ⟨h0, b, cap, (hd t (by simp)).trans h1, h2⟩⟩
instance {t n i l o : Nat} : OneC (kElO t n i l o) := ⟨fun ⟨_, _, _, _, h⟩ => by subst h; rfl⟩
instance (t n i l o : Nat) : KHas (kElO t n i l o) t := ⟨fun ⟨_, b, cap, h1, _⟩ => by rw [h1]; simp⟩
instance : ZeroE (eP eI (eP eI eU)) (.agg #[.int .i64 0, .int .i64 0]) (0, 0, ()) := ⟨fun _ => ⟨[.int .i64 0], [.int .i64 0], rfl, rfl, [.int .i64 0], [], rfl, rfl, rfl⟩⟩
/-- Cell o of what is encoded is the number f. -/
def CellI {α : Type} (e : Enc α) (o : Nat) (f : α → Int) : Prop := ∀ {J : JV} {ds : List Value} {x : α}, e.rd J ds x → ds[o]? = some (.int .i64 (f x))
theorem cellI_a : CellI (eP eI (eP eI eU)) 0 (fun x => x.1) := fun h => by
  obtain ⟨c1, c2, rfl, h1, h2⟩ := h
  cases h1; rfl
theorem cellI_b : CellI (eP eI (eP eI eU)) 1 (fun x => x.2.1) := fun h => by
  obtain ⟨c1, c2, rfl, h1, c3, c4, rfl, h2, h3⟩ := h
  cases h1; cases h2; rfl
section
variable {P : Program} {c : Ctx} {S : Slots} {M : Conts} {p : Bool} {d : Option Tmp} {ty : TypeId} {pos : String} {af : Array Edge} {gd : Option (Nat × Bool)} {x y : Operand} {b b' : Bool}
theorem ok_idxElA {t et : TypeId} {n : Nat} [ht : TyArr P t n et] {sz by' : Nat} {zz : Value} [hz : TySz P et sz by' zz] {u m i len : Nat} {ik : IntKind} {j : Int} (hx : opK S x = some (b, kEl u m i len)) (hb : p = true → b = true) (hy : opK S y = some (b', kInt ik j)) (hb' : p = true → b' = true) (h : p = true → 0 ≤ j ∧ j < n) :
    OpOk P c S M ⟨d, .indexAddr t x y, ty, pos, af, gd⟩ p (kElO u m i len (j.toNat * sz)) none :=
  OpOk.pure fun hp a g w _ _ ho => by
    obtain ⟨hi, bl, cap, h1, h2⟩ := ho x (by simp [Op.operands]) b _ hx (hb hp)
    have h3 : a.eval y = _ := ho y (by simp [Op.operands]) b' _ hy (hb' hp)
    have hlt := h hp
    obtain ⟨ti, hti, rfl, _, _⟩ := hz.h
    refine ⟨.pointer (some ⟨bl, i * m + j.toNat * ti.size, none⟩), ?_, hi, bl, cap, h1, rfl⟩
    simp [execOp, h2, h3, Instr.indexAt, run_underlying ht.h, asIntOf, hlt, sizeOf, typeInfo, hti, Instr.sureAddr, Addr.add_lit]
theorem ok_ldElI {t : TypeId} [ht : TyLeaf P t] {α : Type} [Inhabited α] {zb : Bool} {et : TypeId} {e : Enc α} {xs : List α} {u sz i len len' o : Nat} {dep : List Nat} [hl : LkM M u (cArr zb et e xs len') dep] {f : α → Int} (hf : CellI e o f) (hx : opK S x = some (b, kElO u sz i len o)) (hb : p = true → b = true)
    (hs : sz = e.n) (hle : len = len') : OpOk P c S M ⟨d, .load t x, ty, pos, af, gd⟩ p (kI (f (nth xs i))) none :=
  OpOk.pure fun hp a g w hok hc ho => by
    obtain ⟨hlt, bl, cap, h1, h2⟩ := ho x (by simp [Op.operands]) b _ hx (hb hp)
    obtain ⟨h0, _, cs, h3, _, _, _, h5⟩ := arr_of (xs := xs) hc h1
    obtain ⟨ds, k1, k2⟩ := h5 i _ (nth_get (by omega))
    have hcell : w.cell? ⟨bl, i * sz + o, none⟩ = some (.int .i64 (f (nth xs i))) := cell_own h3 (by rw [hs]; exact k2 o _ (hf k1))
    exact ⟨_, by simp only [execOp, h2, Sem.run_bind, run_loadAt_leaf (P := P) (t := t) hcell, Result.andThen_ok, Sem.run_pure], rfl⟩
theorem ok_ldBV {t : TypeId} [ht : TyLeaf P t] {u j : Nat} {a0 a1 : Int} {dep : List Nat} [hl : LkM M u (cBlk [kI a0, kI a1]) dep] (hj : j < 2) (hx : opK S x = some (b, kOwn u (0 + ((j : Nat) : Int).toNat * 1))) (hb : p = true → b = true) : OpOk P c S M ⟨d, .load t x, ty, pos, af, gd⟩ p (kI (if j = 0 then a0 else a1)) none := by
  rcases (show j = 0 ∨ j = 1 by omega) with rfl | rfl
  · exact ok_ldB (o := 0) hx hb rfl
  · exact ok_ldB (o := 1) hx hb rfl
end
section
variable {P : Program} {c : Ctx} {ops : Array Oper} {S : Slots} {M : Conts} {rest : List Oper} {Q : Exit → Act → World → Prop} {x y : Operand}
variable {ty : TypeId} {pos : String} {af : Array Edge}
theorem TrL.stBV {t : TypeId} {n by' : Nat} {zz : Value} [hz : TySz P t n by' zz] {u j : Nat} {a0 a1 v : Int} {dep : List Nat} {M' : Conts} (hj : j < 2) (hx : opK S x = some (true, kOwn u (0 + ((j : Nat) : Int).toNat * 1))) (hy : opK S y = some (true, kI v)) [hl : LkM M u (cBlk [kI a0, kI a1]) dep]
    [hup : UpM M u (cBlk [kI (if j = 0 then v else a0), kI (if j = 0 then a1 else v)]) [] M'] (hn : 1 = n) (K : TrL P c ops S M' rest Q) : TrL P c ops S M (⟨none, .store t x y, ty, pos, af, none⟩ :: rest) Q := by
  rcases (show j = 0 ∨ j = 1 by omega) with rfl | rfl
  · exact TrL.stB (o := 0) (ks := [kI a0, kI a1]) (kx := [kI v]) (ks' := [kI v, kI a1]) (dep' := []) (hup := hup) hx hy hn rfl K
  · exact TrL.stB (o := 1) (ks := [kI a0, kI a1]) (kx := [kI v]) (ks' := [kI a0, kI v]) (dep' := []) (hup := hup) hx hy hn rfl K
end
section
variable {P : Program} {c : Ctx} {ops : Array Oper} {S : Slots} {M : Conts} {rest : List Oper} {Q : Exit → Act → World → Prop}
variable {d : Nat} {ty : TypeId} {pos : String} {af : Array Edge}
/-- A call that changes what its first argument points to. -/
theorem TrL.mutP {f : FuncId} [hf : TyFn P f] {x : Operand} {args : List Operand} {tys : Array TypeId} {ks : List Know} {res : Know} {u : Nat} {ct ct0 ct' : Cont} {dep : List Nat} {M' : Conts} (hct : CtB P f (kOwn 0 0) ks ct ct' res) (hx : opK S x = some (true, kOwn u 0)) (ha : ArgsOk S true args ks)
    [hl : LkM M u ct0 dep] (hc : ∀ g b cap o, ct0 g (.blk b cap) o → ct (g1 g.J b cap) (.blk b cap) o) (hc' : ∀ {J b cap o} {g : Gh}, ct' (g1 J b cap) (.blk b cap) o → ct' ⟨J, g.M⟩ (.blk b cap) o) [hcd : CDep ct' []] [hup : UpM M u ct' [] M'] [hkd : KDep res []] (hn : Nat.blt d c.n = true)
    (K : TrL P c ops (⟨d, true, [], res⟩ :: S) M' rest Q) : TrL P c ops S M (⟨some d, .call { callee := .value (.func f), args := (x :: args).toArray, argTypes := tys }, ty, pos, af, none⟩ :: rest) Q := by
  intro a g w hsat
  have hdn : d < c.n := by simpa [Nat.blt_eq] using hn
  have hk := opK_holds hsat.slots hx rfl
  obtain ⟨b, cap, hm, hv⟩ := hk
  obtain ⟨bk2, hm2, hobj⟩ := hsat.conts _ hl.mem
  simp only at hm2 hobj
  rw [hm] at hm2; cases hm2
  obtain ⟨_, hlt, hJn⟩ := hsat.ok.own u b cap hm
  have hargs := ha.eval (g := g) (ρ := a.eval) rfl (fun y _ b k hk hb => opK_holds hsat.slots hk hb)
  have hr := hct w g.J b cap hsat.ok.im hJn hlt (hc _ _ _ _ hobj) _ _ ((inferInstance : Own1 (kOwn u 0) u (kOwn 0 0)).imp hm ⟨b, cap, hm, hv⟩) hargs
  refine wpList_plain rfl fun K' hK' => ?_
  unfold Oper.wp
  simp only [execOp, resolve, Act.eval, Deferred.ofValue, Sem.run_bind, Sem.run_pure, Result.andThen_ok, invoke, List.map_toArray, List.map_cons, Array.append_empty, Array.empty_append]
  rw [hf.run]
  simp only [Oper.upon]
  refine hr.mono fun e w' he => ?_
  obtain ⟨r, J', rfl, h1, h2, h3, h4, h5, h6⟩ := he
  exact hK' _ _ (K _ _ _ (hsat.mut hm h1 h2 h3 h4 hup hcd (hc' h6) hdn (hkd.dep (g := ⟨J', noM⟩) (JV.le_refl _) (fun _ h => by cases h) h5)))
end
end Go.Fl

/- Contracts: the periods, in the program. -/
namespace Go.Fl
open Go Go.Proofs

set_option maxRecDepth 100000 in
set_option maxHeartbeats 2000000 in
theorem ct_oPeriods (o : Ori) : Ct Try.prog 49 [kRd eO o] (kTup [kRd eLat (if chk1 o = 0 then perL o else (0, 0, 0)), kI (chk1 o)]) := by
  refine Ct.mk Try.func49 rfl Try.ntmps49 rfl (fun w J => ?_)
  refine Tr.seq ?_
  refine Tr.rg ?_
  refine TrL.new (ok_box 1 rfl (fun _ => rfl) rfl) rfl rfl rfl rfl ?_
  refine TrL.new (ok_alloc 2) rfl rfl rfl rfl ?_
  refine TrL.op (ok_assign rfl (fun _ => rfl)) rfl rfl ?_
  refine TrL.fin ?_
  refine End.nxt ?_
  refine Tr.seq ?_
  refine Tr.seq ?_
  refine Tr.rg ?_
  refine TrL.op (ok_ldBS rfl (fun _ => rfl)) rfl rfl ?_
  refine TrL.op (ok_bslJ eO (fun hp => .cons rfl <| .nil) rfl rfl rfl rfl) rfl rfl ?_
  refine TrL.op (ok_call (fun hp => ct_connected [o]) (.a rfl (fun _ => rfl) <| .nil)) rfl rfl ?_
  refine TrL.op (ok_assign rfl (fun _ => rfl)) rfl rfl ?_
  refine TrL.fin ?_
  refine End.nxt ?_
  refine Tr.seq ?_
  refine Tr.rg ?_
  refine TrL.op (ok_move rfl (fun _ => rfl)) rfl rfl ?_
  refine TrL.op (ok_neq rfl (fun _ => rfl) rfl (fun _ => rfl)) rfl rfl ?_
  refine TrL.fin ?_
  refine End.nxt ?_
  refine Tr.cnd rfl ?_ ?_
  · intro h2
    replace h2 := of_decide_eq_true h2
    rw [connE_one] at h2
    refine Tr.seq ?_
    refine Tr.rg ?_
    refine TrL.op (ok_build (fun hp => .nil)) rfl rfl ?_
    refine TrL.op (ok_move rfl (fun _ => rfl)) rfl rfl ?_
    refine TrL.stB rfl rfl rfl rfl ?_
    refine TrL.op (ok_assign rfl (fun _ => rfl)) rfl rfl ?_
    refine TrL.fin ?_
    refine End.nxt ?_
    refine Tr.ret ?_
    refine Rts.thn ?_
    exact Rts.resC (fn := Try.f49) (ts := [3]) rfl rfl rfl (aggRd rfl (by rw [if_neg h2])) (.i rfl (by rw [connE_one]) <| .nil)
  · intro h2
    replace h2 := Classical.not_not.1 (of_decide_eq_false h2)
    rw [connE_one] at h2
    obtain ⟨v, cn⟩ := chk1_zero h2
    have hv0 := v.pos
    have hv1 := v.len
    have hv2 := v.le
    have h00 : Sq o.1.length 0 := ⟨by omega, by omega⟩
    have hg0 := good1 h00
    refine Tr.skip ?_
    refine End.nxt ?_
    refine Tr.seq ?_
    refine Tr.rg ?_
    refine TrL.op (ok_fldO rfl (fun _ => rfl)) rfl rfl ?_
    refine TrL.op (ok_ldB rfl (fun _ => rfl) rfl) rfl rfl ?_
    refine TrL.op (ok_lenJ rfl (fun _ => rfl)) rfl rfl ?_
    refine TrL.op (ok_assign rfl (fun _ => rfl)) rfl rfl ?_
    refine TrL.fin ?_
    refine End.nxt ?_
    refine Tr.seq ?_
    refine Tr.draw 5 mixed (by kernel_rfl) ?_
    refine RunD.op (ok_move rfl (fun _ => rfl)) rfl rfl ?_
    refine RunD.new (ok_makeN (eP eI (eP eI eU)) 26 rfl (fun _ => rfl) rfl (fun _ => rfl) rfl rfl rfl (fun _ => by omega)) rfl rfl rfl rfl ?_
    refine RunD.op (ok_move rfl (fun _ => rfl)) rfl rfl ?_
    refine RunD.new (ok_makeN eBool 28 rfl (fun _ => rfl) rfl (fun _ => rfl) rfl rfl rfl (fun _ => by omega)) rfl rfl rfl rfl ?_
    refine RunD.opN (ok_assign rfl (fun _ => rfl)) rfl rfl ?_
    refine RunD.z ?_
    refine TrL.op (ok_assign rfl (fun _ => rfl)) rfl rfl ?_
    refine TrL.fin ?_
    refine End.nxt ?_
    refine Tr.seq ?_
    refine Tr.rg ?_
    refine TrL.op (ok_move rfl (fun _ => rfl)) rfl rfl ?_
    first | refine TrL.op (ok_idxEN rfl (fun _ => rfl) rfl (fun _ => rfl) (fun _ => by omega)) rfl rfl ?_ | refine TrL.op (ok_idxE rfl (fun _ => rfl) rfl (fun _ => rfl) (fun _ => by omega)) rfl rfl ?_
    refine TrL.stE rfl rfl rfl rfl rfl ?_
    refine TrL.fin ?_
    refine End.nxt ?_
    refine Tr.seq ?_
    refine Tr.rg ?_
    refine TrL.new (ok_bsl eI 31 (fun hp => .cons rfl <| .nil) rfl rfl rfl rfl) rfl rfl rfl rfl ?_
    refine TrL.op (ok_assign rfl (fun _ => rfl)) rfl rfl ?_
    refine TrL.fin ?_
    refine End.nxt ?_
    refine Tr.seq ?_
    refine Tr.rg ?_
    refine TrL.new (ok_alloc 9) rfl rfl rfl rfl ?_
    refine TrL.fin ?_
    refine End.nxt ?_
    refine Tr.seq ?_
    refine Tr.seq ?_
    refine Tr.rg ?_
    refine TrL.op (ok_assign rfl (fun _ => rfl)) rfl rfl ?_
    refine TrL.fin ?_
    refine End.nxt ?_
    refine Tr.for1 (σ := Nat × List (Int × Int × Unit) × L3) [⟨1, true, _, _⟩, ⟨2, true, _, _⟩, ⟨6, true, _, _⟩, ⟨7, true, _, _⟩, ⟨9, true, _, _⟩] [⟨1, _, _⟩, ⟨2, _, _⟩] (fun (k, at0, l0) => [⟨8, true, [31], kOsl 31 (bfsTo o [] 0 k).length⟩, ⟨10, true, [], kI (k : Int)⟩]) (fun (k, at0, l0) => [⟨26, [], cArr false 106 (eP eI (eP eI eU)) at0 o.1.length⟩, ⟨28, [], cArr false 4 eBool (seenB o.1.length (bfsTo o [] 0 k)) o.1.length⟩, ⟨9, [], cBlk [kI l0.1, kI l0.2.1, kI l0.2.2]⟩, ⟨31, [], cArr false 3 eI (bfsTo o [] 0 k) (bfsTo o [] 0 k).length⟩]) (fun (k, at0, l0) => k ≤ o.1.length ∧ PB o k 0 at0 l0 (bfsTo o [] 0 k)) (fun (k, at0, l0) => l0 = perL o) (fun (k, at0, l0) => o.1.length - k) ((0, List.replicate o.1.length (0, 0, ()), (0, 0, 0))) ⟨Nat.zero_le _, PB.start v⟩ (Ent.mk (.o rfl (by first | rfl | omega | (simp; done) | (simp; omega) | assumption) rfl <| .i rfl (by first | rfl | omega | (simp; done) | (simp; omega) | assumption) <| .k rfl rfl <| .k rfl rfl <| .k rfl rfl <| .k rfl rfl <| .k rfl rfl <| .nil) (.a (by first | rfl | omega | (simp; done) | (simp; omega) | assumption) (by first | rfl | omega | (simp; done) | (simp; omega) | assumption) <| .a (by rw [seenB_nil]; exact seenB_set (x := 0) (by omega)) (by first | rfl | omega | (simp; done) | (simp; omega) | assumption) <| .e (by rfl) rfl <| .a (by first | rfl | omega | (simp; done) | (simp; omega) | assumption) (by first | rfl | omega | (simp; done) | (simp; omega) | assumption) <| .k rfl <| .k rfl <| .nil) rfl) ?_ ?_
    · rintro ⟨k, at0, l0⟩ ⟨hk, hpb⟩
      refine Tr.norm (S' := [⟨8, true, _, _⟩, ⟨10, true, _, _⟩, ⟨1, true, _, _⟩, ⟨2, true, _, _⟩, ⟨6, true, _, _⟩, ⟨7, true, _, _⟩, ⟨9, true, _, _⟩]) (M' := [⟨26, _, _⟩, ⟨28, _, _⟩, ⟨9, _, _⟩, ⟨31, _, _⟩, ⟨1, _, _⟩, ⟨2, _, _⟩]) rfl rfl ?_
      have hlen := bfsTo_len v hg0 k
      have hat0 := hpb.len
      refine Tr.seq ?_
      refine Tr.seq ?_
      refine Tr.rg ?_
      refine TrL.op (ok_move rfl (fun _ => rfl)) rfl rfl ?_
      refine TrL.op (ok_move rfl (fun _ => rfl)) rfl rfl ?_
      refine TrL.op (ok_lenO rfl (fun _ => rfl)) rfl rfl ?_
      refine TrL.op (ok_lss rfl (fun _ => rfl) rfl (fun _ => rfl)) rfl rfl ?_
      refine TrL.fin ?_
      refine End.nxt ?_
      refine Tr.cnd rfl ?_ ?_
      · intro h10
        replace h10 := of_decide_eq_true h10
        have hlt : k < (bfsTo o [] 0 k).length := by omega
        have hxr := srch_x v hg0 hlt
        have hx0 := hxr.1
        have hx1 := hxr.2
        refine Tr.skip ?_
        refine End.nxt ?_
        refine Tr.seq ?_
        refine Tr.blk ?_
        refine Tr.seq ?_
        refine Tr.rg ?_
        refine TrL.op (ok_move rfl (fun _ => rfl)) rfl rfl ?_
        refine TrL.op (ok_move rfl (fun _ => rfl)) rfl rfl ?_
        first | refine TrL.op (ok_idxEN rfl (fun _ => rfl) rfl (fun _ => rfl) (fun _ => by omega)) rfl rfl ?_ | refine TrL.op (ok_idxE rfl (fun _ => rfl) rfl (fun _ => rfl) (fun _ => by omega)) rfl rfl ?_
        refine TrL.op (ok_ldE rfl (fun _ => rfl) rfl rfl rfl) rfl rfl ?_
        refine TrL.op (ok_assign rfl (fun _ => rfl)) rfl rfl ?_
        refine TrL.fin ?_
        refine End.nxt ?_
        refine Tr.seq ?_
        refine Tr.draw 12 mixed (by kernel_rfl) ?_
        refine RunD.op (ok_fldO rfl (fun _ => rfl)) rfl rfl ?_
        refine RunD.op (ok_ldB rfl (fun _ => rfl) rfl) rfl rfl ?_
        refine RunD.op (ok_move rfl (fun _ => rfl)) rfl rfl ?_
        first | refine RunD.op (ok_idxN rfl (fun _ => rfl) rfl (fun _ => rfl) rfl (fun _ => by omega)) rfl rfl ?_ | refine RunD.op (ok_idxP rfl (fun _ => rfl) rfl (fun _ => rfl) rfl (fun _ => by omega)) rfl rfl ?_
        refine RunD.op (ok_ldP rfl (fun _ => rfl) rfl) rfl rfl ?_
        refine RunD.op (ok_fldO rfl (fun _ => rfl)) rfl rfl ?_
        refine RunD.op (ok_ldB rfl (fun _ => rfl) rfl) rfl rfl ?_
        refine RunD.op (ok_move rfl (fun _ => rfl)) rfl rfl ?_
        first | refine RunD.op (ok_idxN rfl (fun _ => rfl) rfl (fun _ => rfl) rfl (fun _ => by omega)) rfl rfl ?_ | refine RunD.op (ok_idxP rfl (fun _ => rfl) rfl (fun _ => rfl) rfl (fun _ => by omega)) rfl rfl ?_
        refine RunD.op (ok_ldP rfl (fun _ => rfl) rfl) rfl rfl ?_
        refine RunD.op (ok_buildL [(0, 1), (1, 1)] rfl (fun hp => .cons rfl rfl rfl <| .cons rfl rfl rfl <| .nil)) rfl rfl ?_
        refine RunD.op (ok_move rfl (fun _ => rfl)) rfl rfl ?_
        refine RunD.z ?_
        refine TrL.fin ?_
        refine End.nxt ?_
        refine Tr.for1 (σ := Nat × List (Int × Int × Unit) × L3) [⟨1, true, _, _⟩, ⟨2, true, _, _⟩, ⟨6, true, _, _⟩, ⟨7, true, _, _⟩, ⟨9, true, _, _⟩, ⟨10, true, _, _⟩, ⟨11, true, _, _⟩, ⟨52, true, _, _⟩] [⟨1, _, _⟩, ⟨2, _, _⟩] (fun (j, at1, l1) => [⟨8, true, [31], kOsl 31 (srch o [] 0 k j).length⟩, ⟨53, true, [], kI (j : Int)⟩]) (fun (j, at1, l1) => [⟨26, [], cArr false 106 (eP eI (eP eI eU)) at1 o.1.length⟩, ⟨28, [], cArr false 4 eBool (seenB o.1.length (srch o [] 0 k j)) o.1.length⟩, ⟨9, [], cBlk [kI l1.1, kI l1.2.1, kI l1.2.2]⟩, ⟨31, [], cArr false 3 eI (srch o [] 0 k j) (srch o [] 0 k j).length⟩]) (fun (j, at1, l1) => j ≤ 2 ∧ PB o k j at1 l1 (srch o [] 0 k j)) (fun (j, at1, l1) => j = 2 ∧ PB o k 2 at1 l1 (srch o [] 0 k 2)) (fun (j, at1, l1) => 2 - j) ((0, at0, l0)) ⟨by omega, hpb⟩ (Ent.mk (.o rfl (by first | rfl | omega | (simp; done) | (simp; omega) | assumption) rfl <| .i rfl (by first | rfl | omega | (simp; done) | (simp; omega) | assumption) <| .k rfl rfl <| .k rfl rfl <| .k rfl rfl <| .k rfl rfl <| .k rfl rfl <| .k rfl rfl <| .k rfl rfl <| .k rfl rfl <| .nil) (.a (by first | rfl | omega | (simp; done) | (simp; omega) | assumption) (by first | rfl | omega | (simp; done) | (simp; omega) | assumption) <| .a (by first | rfl | omega | (simp; done) | (simp; omega) | assumption) (by first | rfl | omega | (simp; done) | (simp; omega) | assumption) <| .e (by rfl) rfl <| .a (by first | rfl | omega | (simp; done) | (simp; omega) | assumption) (by first | rfl | omega | (simp; done) | (simp; omega) | assumption) <| .k rfl <| .k rfl <| .nil) rfl) ?_ ?_
        · rintro ⟨j, at1, l1⟩ ⟨hj, hp1⟩
          refine Tr.norm (S' := [⟨8, true, _, _⟩, ⟨53, true, _, _⟩, ⟨1, true, _, _⟩, ⟨2, true, _, _⟩, ⟨6, true, _, _⟩, ⟨7, true, _, _⟩, ⟨9, true, _, _⟩, ⟨10, true, _, _⟩, ⟨11, true, _, _⟩, ⟨52, true, _, _⟩]) (M' := [⟨26, _, _⟩, ⟨28, _, _⟩, ⟨9, _, _⟩, ⟨31, _, _⟩, ⟨1, _, _⟩, ⟨2, _, _⟩]) rfl rfl ?_
          have hat1 := hp1.len
          have hgl := srch_len (j := j) v hg0 hlt
          have hxe := srch_at (o := o) (F := []) (s := 0) (j := j) hlt
          refine Tr.seq ?_
          refine Tr.rg ?_
          refine TrL.op (ok_lss rfl (fun _ => rfl) rfl (fun _ => rfl)) rfl rfl ?_
          refine TrL.fin ?_
          refine End.nxt ?_
          refine Tr.seq ?_
          refine Tr.cnd rfl ?_ ?_
          · intro h14
            replace h14 := of_decide_eq_true h14
            have hy := srch_y v hg0 hlt (j := j) (by omega)
            have hyY : 0 ≤ nth [nth o.1 (nth (bfsTo o [] 0 k) k).toNat, nth o.2 (nth (bfsTo o [] 0 k) k).toNat] j ∧ nth [nth o.1 (nth (bfsTo o [] 0 k) k).toNat, nth o.2 (nth (bfsTo o [] 0 k) k).toNat] j < o.1.length := hy
            have hnn := nth_seenB' (S := srch o [] 0 k j) hy.1 hy.2
            have hnn2 : nth (seenB o.1.length (srch o [] 0 k j)) (nth [nth o.1 (nth (bfsTo o [] 0 k) k).toNat, nth o.2 (nth (bfsTo o [] 0 k) k).toNat] j).toNat = _ := hnn
            have hyy : edg o (nth (srch o [] 0 k j) k) j = nth [nth o.1 (nth (bfsTo o [] 0 k) k).toNat, nth o.2 (nth (bfsTo o [] 0 k) k).toNat] j := by (rw [hxe.1, ← edg_stp (by omega)]; rfl)
            have hpx := hp1.pb v (nth_mem hxe.2)
            rw [hxe.1] at hpx
            unfold pAt at hpx
            simp only at hpx
            have huni : uni (pAt at1 (nth (srch o [] 0 k j) k)) j = ((if j = 0 then (if j = 0 then (nth at1 (nth (bfsTo o [] 0 k) k).toNat).1 else (nth at1 (nth (bfsTo o [] 0 k) k).toNat).2.1) + 1 else (nth at1 (nth (bfsTo o [] 0 k) k).toNat).1), (if j = 0 then (nth at1 (nth (bfsTo o [] 0 k) k).toNat).2.1 else (if j = 0 then (nth at1 (nth (bfsTo o [] 0 k) k).toNat).1 else (nth at1 (nth (bfsTo o [] 0 k) k).toNat).2.1) + 1)) := by rw [hxe.1]; exact to_uni
            refine Tr.skip ?_
            refine End.nxt ?_
            refine Tr.seq ?_
            refine Tr.blk ?_
            refine Tr.seq ?_
            refine Tr.rg ?_
            refine TrL.op (ok_move rfl (fun _ => rfl)) rfl rfl ?_
            refine TrL.op (ok_idxA eI rfl (fun _ => rfl) rfl (fun _ => rfl) rfl rfl (fun _ => ⟨by omega, by simp; omega⟩)) rfl rfl ?_
            refine TrL.op (ok_assign rfl (fun _ => rfl)) rfl rfl ?_
            refine TrL.op (ok_assign rfl (fun _ => rfl)) rfl rfl ?_
            refine TrL.fin ?_
            refine End.nxt ?_
            refine Tr.seq ?_
            refine Tr.rg ?_
            refine TrL.op (ok_move rfl (fun _ => rfl)) rfl rfl ?_
            refine TrL.op (ok_move rfl (fun _ => rfl)) rfl rfl ?_
            first | refine TrL.op (ok_idxEN rfl (fun _ => rfl) rfl (fun _ => rfl) (fun _ => by omega)) rfl rfl ?_ | refine TrL.op (ok_idxE rfl (fun _ => rfl) rfl (fun _ => rfl) (fun _ => by omega)) rfl rfl ?_
            refine TrL.op (ok_ldEA rfl (fun _ => rfl) rfl rfl rfl rfl) rfl rfl ?_
            refine TrL.new (ok_alloc 14) rfl rfl rfl rfl ?_
            refine TrL.stB rfl rfl rfl rfl ?_
            refine TrL.fin ?_
            refine End.nxt ?_
            refine Tr.seq ?_
            refine Tr.rg ?_
            refine TrL.op (ok_move rfl (fun _ => rfl)) rfl rfl ?_
            refine TrL.op (ok_idxArrO rfl (fun _ => rfl) rfl (fun _ => rfl) (fun _ => by omega)) rfl rfl ?_
            refine TrL.op (ok_ldBV (j := j) (by omega) rfl (fun _ => rfl)) rfl rfl ?_
            refine TrL.op (ok_add rfl (fun _ => rfl) rfl (fun _ => rfl) (fun _ => by split <;> omega)) rfl rfl ?_
            refine TrL.op (ok_idxArrO rfl (fun _ => rfl) rfl (fun _ => rfl) (fun _ => by omega)) rfl rfl ?_
            refine TrL.stBV (j := j) (by omega) rfl rfl rfl ?_
            refine TrL.fin ?_
            refine End.nxt ?_
            refine Tr.seq ?_
            refine Tr.seq ?_
            refine Tr.rg ?_
            refine TrL.op (ok_move rfl (fun _ => rfl)) rfl rfl ?_
            refine TrL.op (ok_move rfl (fun _ => rfl)) rfl rfl ?_
            first | refine TrL.op (ok_idxEN rfl (fun _ => rfl) rfl (fun _ => rfl) (fun _ => by omega)) rfl rfl ?_ | refine TrL.op (ok_idxE rfl (fun _ => rfl) rfl (fun _ => rfl) (fun _ => by omega)) rfl rfl ?_
            refine TrL.op (ok_ldE rfl (fun _ => rfl) rfl rfl rfl) rfl rfl ?_
            refine TrL.fin ?_
            refine End.nxt ?_
            refine Tr.cnd rfl ?_ ?_
            · intro h18
              rw [hnn2] at h18
              have hold := of_decide_eq_true h18
              have hyL : edg o (nth (srch o [] 0 k j) k) j ∈ (srch o [] 0 k j) := by rw [hyy]; exact hold
              have hb := hp1.db v (nth_mem hxe.2) hyL
              have hdx : (if j = 0 then (if j = 0 then (nth at1 (nth (bfsTo o [] 0 k) k).toNat).1 else (nth at1 (nth (bfsTo o [] 0 k) k).toNat).2.1) + 1 else (nth at1 (nth (bfsTo o [] 0 k) k).toNat).1) - (nth at1 (nth [nth o.1 (nth (bfsTo o [] 0 k) k).toNat, nth o.2 (nth (bfsTo o [] 0 k) k).toNat] j).toNat).1 = (dfE o (pAt at1) (nth (srch o [] 0 k j) k) j).1 := by unfold dfE; rw [huni, hyy]; rfl
              have hdy : (if j = 0 then (nth at1 (nth (bfsTo o [] 0 k) k).toNat).2.1 else (if j = 0 then (nth at1 (nth (bfsTo o [] 0 k) k).toNat).1 else (nth at1 (nth (bfsTo o [] 0 k) k).toNat).2.1) + 1) - (nth at1 (nth [nth o.1 (nth (bfsTo o [] 0 k) k).toNat, nth o.2 (nth (bfsTo o [] 0 k) k).toNat] j).toNat).2.1 = (dfE o (pAt at1) (nth (srch o [] 0 k j) k) j).2 := by unfold dfE; rw [huni, hyy]; rfl
              have ba := hp1.bd.a
              have bn := hp1.nf.a
              have hput := ct_put l1 ((if j = 0 then (if j = 0 then (nth at1 (nth (bfsTo o [] 0 k) k).toNat).1 else (nth at1 (nth (bfsTo o [] 0 k) k).toNat).2.1) + 1 else (nth at1 (nth (bfsTo o [] 0 k) k).toNat).1) - (nth at1 (nth [nth o.1 (nth (bfsTo o [] 0 k) k).toNat, nth o.2 (nth (bfsTo o [] 0 k) k).toNat] j).toNat).1) ((if j = 0 then (nth at1 (nth (bfsTo o [] 0 k) k).toNat).2.1 else (if j = 0 then (nth at1 (nth (bfsTo o [] 0 k) k).toNat).1 else (nth at1 (nth (bfsTo o [] 0 k) k).toNat).2.1) + 1) - (nth at1 (nth [nth o.1 (nth (bfsTo o [] 0 k) k).toNat, nth o.2 (nth (bfsTo o [] 0 k) k).toNat] j).toNat).2.1) _ 130 hp1.nf (by rw [hdx, hdy]; exact Bd.start hp1.nf hp1.bd hb.1 hb.2) (by omega) (by omega) (by omega)
              refine Tr.seq ?_
              refine Tr.draw 16 mixed (by kernel_rfl) ?_
              refine RunD.op (ok_idxArrO rfl (fun _ => rfl) rfl (fun _ => rfl) (fun _ => by decide)) rfl rfl ?_
              refine RunD.op (ok_ldB rfl (fun _ => rfl) rfl) rfl rfl ?_
              refine RunD.op (ok_move rfl (fun _ => rfl)) rfl rfl ?_
              refine RunD.op (ok_move rfl (fun _ => rfl)) rfl rfl ?_
              first | refine RunD.op (ok_idxEN rfl (fun _ => rfl) rfl (fun _ => rfl) (fun _ => by omega)) rfl rfl ?_ | refine RunD.op (ok_idxE rfl (fun _ => rfl) rfl (fun _ => rfl) (fun _ => by omega)) rfl rfl ?_
              refine RunD.op (ok_idxElA rfl (fun _ => rfl) rfl (fun _ => rfl) (fun _ => by decide)) rfl rfl ?_
              refine RunD.op (ok_ldElI cellI_a rfl (fun _ => rfl) rfl rfl) rfl rfl ?_
              refine RunD.op (ok_sub rfl (fun _ => rfl) rfl (fun _ => rfl) (fun _ => by rw [hdx]; omega)) rfl rfl ?_
              refine RunD.op (ok_idxArrO rfl (fun _ => rfl) rfl (fun _ => rfl) (fun _ => by decide)) rfl rfl ?_
              refine RunD.op (ok_ldB rfl (fun _ => rfl) rfl) rfl rfl ?_
              refine RunD.op (ok_move rfl (fun _ => rfl)) rfl rfl ?_
              refine RunD.op (ok_move rfl (fun _ => rfl)) rfl rfl ?_
              first | refine RunD.op (ok_idxEN rfl (fun _ => rfl) rfl (fun _ => rfl) (fun _ => by omega)) rfl rfl ?_ | refine RunD.op (ok_idxE rfl (fun _ => rfl) rfl (fun _ => rfl) (fun _ => by omega)) rfl rfl ?_
              refine RunD.op (ok_idxElA rfl (fun _ => rfl) rfl (fun _ => rfl) (fun _ => by decide)) rfl rfl ?_
              refine RunD.op (ok_ldElI cellI_b rfl (fun _ => rfl) rfl rfl) rfl rfl ?_
              refine RunD.op (ok_sub rfl (fun _ => rfl) rfl (fun _ => rfl) (fun _ => by rw [hdy]; omega)) rfl rfl ?_
              refine RunD.z ?_
              refine TrL.mutP (hput) rfl (.a rfl (fun _ => rfl) <| .a rfl (fun _ => rfl) <| .nil) (fun _ _ _ _ h => cBlk_go h) (fun h => cBlk_go h) rfl ?_
              refine TrL.fin ?_
              refine End.nxt ?_
              refine Tr.exit ?_
              refine Exs.thn ?_
              refine Exs.here ?_
              refine End.nxt ?_
              refine Tr.rg ?_
              refine TrL.op (ok_add rfl (fun _ => rfl) rfl (fun _ => rfl) (fun _ => by omega)) rfl rfl ?_
              refine TrL.op (ok_move rfl (fun _ => rfl)) rfl rfl ?_
              refine TrL.fin ?_
              exact End.lp ((j + 1, at1, latA l1 (dfE o (pAt at1) (nth (srch o [] 0 k j) k) j))) ⟨by omega, by rw [srch_in (by omega) hold]; exact hp1.old v hxe.2 (by omega) hyL⟩ (show 2 - (j + 1) < 2 - j by omega) (Ent.mk (.o rfl (by rw [srch_in (by omega) hold]) rfl <| .i rfl (by first | rfl | omega | (simp; done) | (simp; omega) | assumption) <| .k rfl rfl <| .k rfl rfl <| .k rfl rfl <| .k rfl rfl <| .k rfl rfl <| .k rfl rfl <| .k rfl rfl <| .k rfl rfl <| .nil) (.a (by first | rfl | omega | (simp; done) | (simp; omega) | assumption) (by first | rfl | omega | (simp; done) | (simp; omega) | assumption) <| .a (by rw [srch_in (by omega) hold]) (by first | rfl | omega | (simp; done) | (simp; omega) | assumption) <| .e (by rw [hdx, hdy]) rfl <| .a (by rw [srch_in (by omega) hold]) (by rw [srch_in (by omega) hold]) <| .k rfl <| .k rfl <| .nil) rfl)
            · intro h18
              rw [hnn2] at h18
              have hnew := of_decide_eq_false h18
              have hyL : edg o (nth (srch o [] 0 k j) k) j ∉ (srch o [] 0 k j) := by rw [hyy]; exact hnew
              have hyE : Sq o.1.length (edg o (nth (srch o [] 0 k j) k) j) := by rw [hyy]; exact hy
              refine Tr.skip ?_
              refine End.nxt ?_
              refine Tr.seq ?_
              refine Tr.drawS 6 28 mixed (by kernel_rfl) ?_
              refine RunS.opA (ok_move rfl (fun _ => rfl)) (by kernel_rfl) rfl rfl ?_
              refine RunS.opA (ok_move rfl (fun _ => rfl)) (by kernel_rfl) rfl rfl ?_
              refine RunS.op (ok_move rfl (fun _ => rfl)) rfl rfl ?_
              refine RunS.op (ok_move rfl (fun _ => rfl)) rfl rfl ?_
              refine RunS.op (ok_ldBS rfl (fun _ => rfl)) rfl rfl ?_
              first | refine RunS.opA (ok_idxEN rfl (fun _ => rfl) rfl (fun _ => rfl) (fun _ => by omega)) (by kernel_rfl) rfl rfl ?_ | refine RunS.opA (ok_idxE rfl (fun _ => rfl) rfl (fun _ => rfl) (fun _ => by omega)) (by kernel_rfl) rfl rfl ?_
              refine RunS.z (st_E rfl rfl rfl rfl rfl) rfl rfl rfl ?_
              first | refine TrL.op (ok_idxEN rfl (fun _ => rfl) rfl (fun _ => rfl) (fun _ => by omega)) rfl rfl ?_ | refine TrL.op (ok_idxE rfl (fun _ => rfl) rfl (fun _ => rfl) (fun _ => by omega)) rfl rfl ?_
              refine TrL.stE rfl rfl rfl rfl rfl ?_
              refine TrL.fin ?_
              refine End.nxt ?_
              refine Tr.rg ?_
              refine TrL.op (ok_move rfl (fun _ => rfl)) rfl rfl ?_
              refine TrL.op (ok_move rfl (fun _ => rfl)) rfl rfl ?_
              refine TrL.new (ok_bsl eI 96 (fun hp => .cons rfl <| .nil) rfl rfl rfl rfl) rfl rfl rfl rfl ?_
              refine TrL.app rfl rfl rfl rfl rfl rfl rfl rfl (by first | omega | (simp only [List.length_cons, List.length_nil]; omega)) (by first | omega | (simp only [List.length_cons, List.length_nil]; omega)) ?_
              refine TrL.norm (S' := ⟨_, _, _, _⟩ :: ⟨_, _, _, _⟩ :: ⟨_, _, _, _⟩ :: ⟨_, _, _, _⟩ :: ⟨_, _, _, _⟩ :: ⟨_, _, _, _⟩ :: ⟨_, _, _, _⟩ :: ⟨_, _, _, _⟩ :: ⟨_, _, _, _⟩ :: ⟨_, _, _, _⟩ :: ⟨_, _, _, _⟩ :: ⟨_, _, _, _⟩ :: ⟨_, _, _, _⟩ :: ⟨_, _, _, _⟩ :: ⟨_, _, _, _⟩ :: ⟨_, _, _, _⟩ :: ⟨_, _, _, _⟩ :: ⟨_, _, _, _⟩ :: ⟨_, _, _, _⟩ :: ⟨_, _, _, _⟩ :: ⟨_, _, _, _⟩ :: ⟨_, _, _, _⟩ :: ⟨_, _, _, _⟩ :: ⟨_, _, _, _⟩ :: ⟨_, _, _, _⟩ :: ⟨_, _, _, _⟩ :: ⟨_, _, _, _⟩ :: ⟨_, _, _, _⟩ :: ⟨_, _, _, _⟩ :: ⟨_, _, _, _⟩ :: ⟨_, _, _, _⟩ :: ⟨_, _, _, _⟩ :: ⟨_, _, _, _⟩ :: ⟨_, _, _, _⟩ :: ⟨_, _, _, _⟩ :: ⟨_, _, _, _⟩ :: ⟨_, _, _, _⟩ :: ⟨_, _, _, _⟩ :: ⟨_, _, _, _⟩ :: ⟨_, _, _, _⟩ :: []) rfl rfl ?_
              refine TrL.op (ok_assign rfl (fun _ => rfl)) rfl rfl ?_
              refine TrL.fin ?_
              refine End.blk ?_
              refine End.nxt ?_
              refine Tr.rg ?_
              refine TrL.op (ok_add rfl (fun _ => rfl) rfl (fun _ => rfl) (fun _ => by omega)) rfl rfl ?_
              refine TrL.op (ok_move rfl (fun _ => rfl)) rfl rfl ?_
              refine TrL.fin ?_
              exact End.lp ((j + 1, at1.set (edg o (nth (srch o [] 0 k j) k) j).toNat ((uni (pAt at1 (nth (srch o [] 0 k j) k)) j).1, (uni (pAt at1 (nth (srch o [] 0 k j) k)) j).2, ()), l1)) ⟨by omega, by rw [srch_new (by omega) hnew, edg_stp (by omega), ← hxe.1]; exact hp1.new hxe.2 (by omega) hyE hyL (by rfl)⟩ (show 2 - (j + 1) < 2 - j by omega) (Ent.mk (.o rfl (by rw [srch_new (by omega) hnew, List.length_append]; rfl) rfl <| .i rfl (by first | rfl | omega | (simp; done) | (simp; omega) | assumption) <| .k rfl rfl <| .k rfl rfl <| .k rfl rfl <| .k rfl rfl <| .k rfl rfl <| .k rfl rfl <| .k rfl rfl <| .k rfl rfl <| .nil) (.a (by rw [huni, hyy]) (by first | rfl | omega | (simp; done) | (simp; omega) | assumption) <| .a (by rw [srch_new (by omega) hnew]; exact seenB_set (x := nth (stp o (nth (bfsTo o [] 0 k) k)) j) hy.1) (by first | rfl | omega | (simp; done) | (simp; omega) | assumption) <| .e (by rfl) rfl <| .a (by rw [srch_new (by omega) hnew]; rfl) (by rw [srch_new (by omega) hnew, List.length_append]; rfl) <| .k rfl <| .k rfl <| .nil) rfl)
          · intro h14
            replace h14 := Int.not_lt.1 (of_decide_eq_false h14)
            refine Tr.exit ?_
            refine Exs.thn ?_
            refine Exs.thn ?_
            refine Exs.here ?_
            exact End.cut ((j, at1, l1)) (by (obtain rfl : j = 2 := by omega); exact ⟨rfl, hp1⟩) (Ent.mk (.o rfl (by first | rfl | omega | (simp; done) | (simp; omega) | assumption) rfl <| .i rfl (by first | rfl | omega | (simp; done) | (simp; omega) | assumption) <| .k rfl rfl <| .k rfl rfl <| .k rfl rfl <| .k rfl rfl <| .k rfl rfl <| .k rfl rfl <| .k rfl rfl <| .k rfl rfl <| .nil) (.a (by first | rfl | omega | (simp; done) | (simp; omega) | assumption) (by first | rfl | omega | (simp; done) | (simp; omega) | assumption) <| .a (by first | rfl | omega | (simp; done) | (simp; omega) | assumption) (by first | rfl | omega | (simp; done) | (simp; omega) | assumption) <| .e (by rfl) rfl <| .a (by first | rfl | omega | (simp; done) | (simp; omega) | assumption) (by first | rfl | omega | (simp; done) | (simp; omega) | assumption) <| .k rfl <| .k rfl <| .nil) rfl)
        · rintro ⟨j, at1, l1⟩ ⟨hj2, hp1⟩
          refine End.norm (S' := [⟨8, true, _, _⟩, ⟨53, true, _, _⟩, ⟨1, true, _, _⟩, ⟨2, true, _, _⟩, ⟨6, true, _, _⟩, ⟨7, true, _, _⟩, ⟨9, true, _, _⟩, ⟨10, true, _, _⟩, ⟨11, true, _, _⟩, ⟨52, true, _, _⟩]) (M' := [⟨26, _, _⟩, ⟨28, _, _⟩, ⟨9, _, _⟩, ⟨31, _, _⟩, ⟨1, _, _⟩, ⟨2, _, _⟩]) rfl rfl ?_
          subst hj2
          refine End.blk ?_
          refine End.nxt ?_
          refine Tr.rg ?_
          refine TrL.op (ok_move rfl (fun _ => rfl)) rfl rfl ?_
          refine TrL.op (ok_add rfl (fun _ => rfl) rfl (fun _ => rfl) (fun _ => by omega)) rfl rfl ?_
          refine TrL.op (ok_assign rfl (fun _ => rfl)) rfl rfl ?_
          refine TrL.fin ?_
          exact End.lp ((k + 1, at1, l1)) ⟨by omega, by rw [← srch_two hlt]; exact hp1.two⟩ (show o.1.length - (k + 1) < o.1.length - k by omega) (Ent.mk (.o rfl (by rw [srch_two hlt]) rfl <| .i rfl (by first | rfl | omega | (simp; done) | (simp; omega) | assumption) <| .k rfl rfl <| .k rfl rfl <| .k rfl rfl <| .k rfl rfl <| .k rfl rfl <| .nil) (.a (by first | rfl | omega | (simp; done) | (simp; omega) | assumption) (by first | rfl | omega | (simp; done) | (simp; omega) | assumption) <| .a (by rw [srch_two hlt]) (by first | rfl | omega | (simp; done) | (simp; omega) | assumption) <| .e (by rfl) rfl <| .a (by rw [srch_two hlt]) (by rw [srch_two hlt]) <| .k rfl <| .k rfl <| .nil) rfl)
      · intro h10
        replace h10 := Int.not_lt.1 (of_decide_eq_false h10)
        refine Tr.exit ?_
        refine Exs.thn ?_
        refine Exs.thn ?_
        refine Exs.here ?_
        exact End.cut ((k, at0, l0)) (hpb.fin v cn (bfs_of v hg0 (by omega)) (by omega)) (Ent.mk (.o rfl (by first | rfl | omega | (simp; done) | (simp; omega) | assumption) rfl <| .i rfl (by first | rfl | omega | (simp; done) | (simp; omega) | assumption) <| .k rfl rfl <| .k rfl rfl <| .k rfl rfl <| .k rfl rfl <| .k rfl rfl <| .nil) (.a (by first | rfl | omega | (simp; done) | (simp; omega) | assumption) (by first | rfl | omega | (simp; done) | (simp; omega) | assumption) <| .a (by first | rfl | omega | (simp; done) | (simp; omega) | assumption) (by first | rfl | omega | (simp; done) | (simp; omega) | assumption) <| .e (by rfl) rfl <| .a (by first | rfl | omega | (simp; done) | (simp; omega) | assumption) (by first | rfl | omega | (simp; done) | (simp; omega) | assumption) <| .k rfl <| .k rfl <| .nil) rfl)
    · rintro ⟨k, at0, l0⟩ hE0
      refine End.norm (S' := [⟨8, true, _, _⟩, ⟨10, true, _, _⟩, ⟨1, true, _, _⟩, ⟨2, true, _, _⟩, ⟨6, true, _, _⟩, ⟨7, true, _, _⟩, ⟨9, true, _, _⟩]) (M' := [⟨26, _, _⟩, ⟨28, _, _⟩, ⟨9, _, _⟩, ⟨31, _, _⟩, ⟨1, _, _⟩, ⟨2, _, _⟩]) rfl rfl ?_
      refine End.nxt ?_
      refine Tr.seq ?_
      refine Tr.rg ?_
      refine TrL.op (ok_ldBS rfl (fun _ => rfl)) rfl rfl ?_
      refine TrL.stB rfl rfl rfl rfl ?_
      refine TrL.op (ok_assign rfl (fun _ => rfl)) rfl rfl ?_
      refine TrL.fin ?_
      refine End.nxt ?_
      refine Tr.ret ?_
      exact Rts.resC (fn := Try.f49) (ts := [3]) rfl rfl rfl (aggRd rfl (by rw [if_pos h2, ← hE0])) (.i rfl h2.symm <| .nil)

end Go.Fl

/- Structs of integers that are equal. No program in sight. -/
namespace Go.Fl
open Go Go.RowKit
/-- A value that is a struct of integers, all of them known. -/
class KInts (k : Know) (xs : outParam (List Int)) : Prop where
  imp : ∀ {g : Gh} {v : Value}, k g v → v = .agg (xs.map (Value.int .i64)).toArray
instance {a b c : Int} : KInts (kAgg [kI a, kI b, kI c]) [a, b, c] := ⟨fun {g v} h => by
  obtain ⟨cs, rfl, h2⟩ := h
  match cs, h2 with
  | [_, _, _], ⟨rfl, rfl, rfl, _⟩ => rfl⟩
section
variable {P : Program} {c : Ctx} {S : Slots} {M : Conts} {p : Bool} {d : Option Tmp} {ty : TypeId} {pos : String} {af : Array Edge} {gd : Option (Nat × Bool)} {x y : Operand} {b b' : Bool}
theorem ok_eqlSame {t t' : TypeId} {n : Nat} [ht : TyInts P t n] {k k' : Know} {xs ys : List Int} (hx : opK S x = some (b, k)) (hb : p = true → b = true) (hy : opK S y = some (b', k')) (hb' : p = true → b' = true) [h1 : KInts k xs] [h2 : KInts k' ys] (hl : xs.length = n) (he : p = true → xs = ys) :
    OpOk P c S M ⟨d, .binOp .eql t x y t', ty, pos, af, gd⟩ p (kB true) none :=
  OpOk.pure fun hp a g w _ _ ho => by
    have h3 : a.eval x = _ := h1.imp (ho x (by simp [Op.operands]) b _ hx (hb hp))
    have h4 : a.eval y = _ := h2.imp (ho y (by simp [Op.operands]) b' _ hy (hb' hp))
    rw [← he hp] at h4
    refine ⟨.bool true, ?_, rfl⟩
    simp only [execOp, h3, h4, Sem.run_bind, run_eqGuard_agg w _ _ _ _ _ _ ht.grd, Result.andThen_ok, run_eql_struct, ht.eq xs w hl, Sem.run_pure]
end
end Go.Fl

/- Contracts: the law of strata. -/
namespace Go.Fl
open Go Go.Proofs

instance : TyInts Try.prog 69 3 := TyInts.mk' (by kernel_rfl) (by kernel_rfl) (by kernel_rfl) (by kernel_rfl)

instance {l : L3} : KInts (kRd eLat l) [l.1, l.2.1, l.2.2] := ⟨fun {g v} h => by
  obtain ⟨cs, h1, rfl⟩ := h
  obtain ⟨_, _, rfl, rfl, _, _, rfl, rfl, _, _, rfl, rfl, rfl⟩ := h1
  rfl⟩

set_option maxRecDepth 100000 in
set_option maxHeartbeats 1000000 in
theorem ct_OrigamiStrata (o : Ori) : Ct Try.prog 9 [kRd eO o] (kB true) := by
  refine Ct.mk Try.func9 rfl Try.ntmps9 rfl (fun w J => ?_)
  refine Tr.seq ?_
  refine Tr.rg ?_
  refine TrL.new (ok_box 1 rfl (fun _ => rfl) rfl) rfl rfl rfl rfl ?_
  refine TrL.op (ok_assign rfl (fun _ => rfl)) rfl rfl ?_
  refine TrL.fin ?_
  refine End.nxt ?_
  refine Tr.seq ?_
  refine Tr.seq ?_
  refine Tr.rg ?_
  refine TrL.op (ok_call (fun hp => ct_awake) (.nil)) rfl rfl ?_
  refine TrL.op (ok_not rfl (fun _ => rfl)) rfl rfl ?_
  refine TrL.fin ?_
  refine End.nxt ?_
  refine Tr.cnd rfl ?_ ?_
  · intro h1
    simp at h1
  · intro h1
    refine Tr.skip ?_
    refine End.nxt ?_
    refine Tr.seq ?_
    refine Tr.seq ?_
    refine Tr.rg ?_
    refine TrL.op (ok_ldBS rfl (fun _ => rfl)) rfl rfl ?_
    refine TrL.op (ok_call (fun hp => ct_Few _) (.s rfl (fun _ => rfl) rfl <| .nil)) rfl rfl ?_
    refine TrL.op (ok_not rfl (fun _ => rfl)) rfl rfl ?_
    refine TrL.fin ?_
    refine End.nxt ?_
    refine Tr.cnd rfl ?_ ?_
    · intro h3
      refine Tr.seq ?_
      refine Tr.rg ?_
      refine TrL.op (ok_assign rfl (fun _ => rfl)) rfl rfl ?_
      refine TrL.fin ?_
      refine End.nxt ?_
      refine Tr.ret ?_
      refine Rts.thn ?_
      exact Rts.res1 (fn := Try.f9) rfl (.b rfl (by rfl) <| .nil)
    · intro h3
      refine Tr.skip ?_
      refine End.nxt ?_
      refine Tr.seq ?_
      refine Tr.rg ?_
      refine TrL.op (ok_ldBS rfl (fun _ => rfl)) rfl rfl ?_
      refine TrL.op (ok_call (fun hp => ct_oStratum _) (.s rfl (fun _ => rfl) rfl <| .nil)) rfl rfl ?_
      refine TrL.op (ok_move rfl (fun _ => rfl)) rfl rfl ?_
      refine TrL.op (ok_ext rfl (fun _ => rfl) rfl) rfl rfl ?_
      refine TrL.op (ok_ext rfl (fun _ => rfl) rfl) rfl rfl ?_
      refine TrL.op (ok_assign rfl (fun _ => rfl)) rfl rfl ?_
      refine TrL.op (ok_assign rfl (fun _ => rfl)) rfl rfl ?_
      refine TrL.fin ?_
      refine End.nxt ?_
      refine Tr.seq ?_
      refine Tr.rg ?_
      refine TrL.op (ok_ldBS rfl (fun _ => rfl)) rfl rfl ?_
      refine TrL.op (ok_call (fun hp => ct_oGenus _) (.s rfl (fun _ => rfl) rfl <| .nil)) rfl rfl ?_
      refine TrL.op (ok_move rfl (fun _ => rfl)) rfl rfl ?_
      refine TrL.op (ok_ext rfl (fun _ => rfl) rfl) rfl rfl ?_
      refine TrL.op (ok_ext rfl (fun _ => rfl) rfl) rfl rfl ?_
      refine TrL.op (ok_assign rfl (fun _ => rfl)) rfl rfl ?_
      refine TrL.op (ok_assign rfl (fun _ => rfl)) rfl rfl ?_
      refine TrL.fin ?_
      refine End.nxt ?_
      refine Tr.seq ?_
      refine Tr.rg ?_
      refine TrL.op (ok_ldBS rfl (fun _ => rfl)) rfl rfl ?_
      refine TrL.op (ok_call (fun hp => ct_oPeriods _) (.s rfl (fun _ => rfl) rfl <| .nil)) rfl rfl ?_
      refine TrL.op (ok_move rfl (fun _ => rfl)) rfl rfl ?_
      refine TrL.op (ok_ext rfl (fun _ => rfl) rfl) rfl rfl ?_
      refine TrL.op (ok_ext rfl (fun _ => rfl) rfl) rfl rfl ?_
      refine TrL.new (ok_alloc 7) rfl rfl rfl rfl ?_
      refine TrL.stB rfl rfl rfl rfl ?_
      refine TrL.op (ok_assign rfl (fun _ => rfl)) rfl rfl ?_
      refine TrL.fin ?_
      refine End.nxt ?_
      refine Tr.seq ?_
      refine Tr.seq ?_
      refine Tr.rg ?_
      refine TrL.op (ok_ldBS rfl (fun _ => rfl)) rfl rfl ?_
      refine TrL.op (ok_call (fun hp => ct_rCheckOne _) (.s rfl (fun _ => rfl) rfl <| .nil)) rfl rfl ?_
      refine TrL.op (ok_assign rfl (fun _ => rfl)) rfl rfl ?_
      refine TrL.fin ?_
      refine End.nxt ?_
      refine Tr.seq ?_
      refine Tr.rg ?_
      refine TrL.op (ok_move rfl (fun _ => rfl)) rfl rfl ?_
      refine TrL.op (ok_neq rfl (fun _ => rfl) rfl (fun _ => rfl)) rfl rfl ?_
      refine TrL.fin ?_
      refine End.nxt ?_
      refine Tr.cnd rfl ?_ ?_
      · intro h9
        replace h9 := of_decide_eq_true h9
        refine Tr.seq ?_
        refine Tr.rg ?_
        refine TrL.op (ok_move rfl (fun _ => rfl)) rfl rfl ?_
        refine TrL.op (ok_move rfl (fun _ => rfl)) rfl rfl ?_
        refine TrL.op (ok_eql rfl (fun _ => rfl) rfl (fun _ => rfl)) rfl rfl ?_
        refine TrL.op (ok_move rfl (fun _ => rfl)) rfl rfl ?_
        refine TrL.gd rfl rfl rfl (ok_move rfl (fun _ => rfl)) rfl rfl ?_
        refine TrL.gd rfl rfl rfl (ok_move rfl (fun _ => rfl)) rfl rfl ?_
        refine TrL.gd rfl rfl rfl (ok_eql rfl id rfl id) rfl rfl ?_
        refine TrL.op (ok_and rfl (fun _ => rfl) rfl (fun hp h => gdT2 ((fun _ => rfl) hp) h)) rfl rfl ?_
        refine TrL.op (ok_move rfl (fun _ => rfl)) rfl rfl ?_
        refine TrL.gd rfl rfl rfl (ok_move rfl (fun _ => rfl)) rfl rfl ?_
        refine TrL.gd rfl rfl rfl (ok_move rfl (fun _ => rfl)) rfl rfl ?_
        refine TrL.gd rfl rfl rfl (ok_eql rfl id rfl id) rfl rfl ?_
        refine TrL.op (ok_and rfl (fun _ => rfl) rfl (fun hp h => gdT2 ((fun _ => rfl) hp) h)) rfl rfl ?_
        refine TrL.op (ok_move rfl (fun _ => rfl)) rfl rfl ?_
        refine TrL.gd rfl rfl rfl (ok_move rfl (fun _ => rfl)) rfl rfl ?_
        refine TrL.gd rfl rfl rfl (ok_lenJ rfl id) rfl rfl ?_
        refine TrL.gd rfl rfl rfl (ok_eql rfl id rfl (fun _ => rfl)) rfl rfl ?_
        refine TrL.op (ok_and rfl (fun _ => rfl) rfl (fun hp h => gdT2 ((fun _ => rfl) hp) h)) rfl rfl ?_
        refine TrL.op (ok_move rfl (fun _ => rfl)) rfl rfl ?_
        refine TrL.gd rfl rfl rfl (ok_move rfl (fun _ => rfl)) rfl rfl ?_
        refine TrL.gd rfl rfl rfl (ok_eql rfl id rfl (fun _ => rfl)) rfl rfl ?_
        refine TrL.op (ok_and rfl (fun _ => rfl) rfl (fun hp h => gdT2 ((fun _ => rfl) hp) h)) rfl rfl ?_
        refine TrL.op (ok_move rfl (fun _ => rfl)) rfl rfl ?_
        refine TrL.gd rfl rfl rfl (ok_ldBS rfl (fun _ => rfl)) rfl rfl ?_
        refine TrL.gd rfl rfl rfl (ok_build (fun hp => .nil)) rfl rfl ?_
        refine TrL.gd rfl rfl rfl (ok_eqlSame (n := 3) rfl id rfl id rfl (fun _ => by rw [if_neg h9])) rfl rfl ?_
        refine TrL.op (ok_and rfl (fun _ => rfl) rfl (fun hp h => gdT2 ((fun _ => rfl) hp) h)) rfl rfl ?_
        refine TrL.op (ok_assign rfl (fun _ => rfl)) rfl rfl ?_
        refine TrL.fin ?_
        refine End.nxt ?_
        refine Tr.ret ?_
        refine Rts.thn ?_
        exact Rts.res1 (fn := Try.f9) rfl (.b rfl (by simp [h9]) <| .nil)
      · intro h9
        replace h9 := Classical.not_not.1 (of_decide_eq_false h9)
        obtain ⟨v, cn⟩ := chk1_zero h9
        refine Tr.skip ?_
        refine End.nxt ?_
        refine Tr.seq ?_
        refine Tr.draw 26 mixed (by kernel_rfl) ?_
        refine RunD.op (ok_move rfl (fun _ => rfl)) rfl rfl ?_
        refine RunD.op (ok_eql rfl (fun _ => rfl) rfl (fun _ => rfl)) rfl rfl ?_
        refine RunD.op (ok_move rfl (fun _ => rfl)) rfl rfl ?_
        refine RunD.gd rfl rfl rfl (ok_move rfl (fun _ => rfl)) rfl rfl ?_
        refine RunD.gd rfl rfl rfl (ok_eql rfl id rfl (fun _ => rfl)) rfl rfl ?_
        refine RunD.op (ok_and rfl (fun _ => rfl) rfl (fun hp h => gdT2 ((fun _ => rfl) hp) h)) rfl rfl ?_
        refine RunD.op (ok_move rfl (fun _ => rfl)) rfl rfl ?_
        refine RunD.gd rfl rfl rfl (ok_move rfl (fun _ => rfl)) rfl rfl ?_
        refine RunD.gd rfl rfl rfl (ok_eql rfl id rfl (fun _ => rfl)) rfl rfl ?_
        refine RunD.op (ok_and rfl (fun _ => rfl) rfl (fun hp h => gdT2 ((fun _ => rfl) hp) h)) rfl rfl ?_
        refine RunD.op (ok_move rfl (fun _ => rfl)) rfl rfl ?_
        refine RunD.gd rfl rfl rfl (ok_move rfl (fun _ => rfl)) rfl rfl ?_
        refine RunD.gd rfl rfl rfl (ok_ldBS rfl (fun _ => rfl)) rfl rfl ?_
        refine RunD.gd rfl rfl rfl (ok_call (fun hp => ct_rStratum _ v) (.s rfl id rfl <| .nil)) rfl rfl ?_
        refine RunD.gd rfl rfl rfl (ok_call (fun hp => ct_Ints _ _) (.a rfl id <| .a rfl id <| .nil)) rfl rfl ?_
        refine RunD.op (ok_and rfl (fun _ => rfl) rfl (fun hp h => gdT2 ((fun _ => rfl) hp) h)) rfl rfl ?_
        refine RunD.op (ok_move rfl (fun _ => rfl)) rfl rfl ?_
        refine RunD.gd rfl rfl rfl (ok_move rfl (fun _ => rfl)) rfl rfl ?_
        refine RunD.gd rfl rfl rfl (ok_ldBS rfl (fun _ => rfl)) rfl rfl ?_
        refine RunD.gd rfl rfl rfl (ok_call (fun hp => ct_rGenus _ v) (.s rfl id rfl <| .nil)) rfl rfl ?_
        refine RunD.gd rfl rfl rfl (ok_eql rfl id rfl id) rfl rfl ?_
        refine RunD.op (ok_and rfl (fun _ => rfl) rfl (fun hp h => gdT2 ((fun _ => rfl) hp) h)) rfl rfl ?_
        refine RunD.op (ok_move rfl (fun _ => rfl)) rfl rfl ?_
        refine RunD.gd rfl rfl rfl (ok_ldBS rfl (fun _ => rfl)) rfl rfl ?_
        refine RunD.gd rfl rfl rfl (ok_ldBS rfl (fun _ => rfl)) rfl rfl ?_
        refine RunD.gd rfl rfl rfl (ok_call (fun hp => ct_rPeriods _ v cn) (.s rfl id rfl <| .nil)) rfl rfl ?_
        refine RunD.z ?_
        refine TrL.gd rfl rfl rfl (ok_eqlSame (n := 3) rfl id rfl id rfl (fun _ => by rw [if_pos h9])) rfl rfl ?_
        refine TrL.op (ok_and rfl (fun _ => rfl) rfl (fun hp h => gdT2 ((fun _ => rfl) hp) h)) rfl rfl ?_
        refine TrL.op (ok_assign rfl (fun _ => rfl)) rfl rfl ?_
        refine TrL.fin ?_
        refine End.nxt ?_
        refine Tr.ret ?_
        exact Rts.res1 (fn := Try.f9) rfl (.b rfl (by simp [h9]) <| .nil)

end Go.Fl

/- THE LAW OrigamiStrata HOLDS FOR EVERY INPUT: whatever the arguments, the call returns true, and each argument reads behind it as before. Conditions: those of the given row (its listed variables as the program lays them). -/
namespace Go.Proofs.Ytphkjcmonjbpfaa
open Go Go.Fl Go.RowKit Go.ChangeShapes Go.WideShapes Go.ChangeAt

theorem rdt22 : RdT Try.prog 22 (eL eI) (ListP (okI .i64)) := RdT.slice RdT.int rfl rfl rfl
theorem rdt24t : RdT Try.prog 24 (eP (eL eI) (eP (eL eI) eU)) (AndP (ListP (okI .i64)) (AndP (ListP (okI .i64)) UnitP)) := by
  refine RdT.struct (l := [_, _]) Try.underlying24 rfl (by kernel_rfl) ?_
  refine FldT.cons rdt22 (by rfl) (by rfl) (by rfl) ?_
  refine FldT.cons rdt22 (by rfl) (by rfl) (by rfl) ?_
  exact FldT.nil
theorem rdt24 : RdT Try.prog 24 eO (fun o : Ori => ListP (okI .i64) o.1 ∧ ListP (okI .i64) o.2) := RdT.conv rdt24t (fun x => ((x.1, x.2.1) : Ori)) (fun _ _ _ h => h) (fun _ h => ⟨h.1, h.2.1⟩)
theorem own : ownKnob Try.prog.godebug = none := by kernel_rfl
set_option maxRecDepth 100000 in
theorem lifted0 (os : Os) (started : os.Started) (H : Type) (enc : TypeId × Value → H) :
    ReturnsInHanded {} Try.checked os 9 .any (fun w args => (Rows.origamiStrataSpec.pre enc Try.prog Try.f9 [] false w args ∧ True) ∧ sizedMet enc Try.prog Try.f9 (OpenSpec.ofChange Rows.origamiStrataSpec) false w args)
      (Rows.origamiStrataSpec.post enc Try.prog Try.f9 false true false false) := by
  refine returnsInHanded_of_change_and (C := Try.checked) (X := fun _ _ => True) (fun _ _ _ _ h => h) own started (by kernel_rfl) Try.func9
    (ChangeSpec.witness_shaped (enc := enc) (C := Try.checked) (os := os) (X := fun _ _ => True) false (World.laidAll Try.prog os Rows.origamiStrataRow.laid) #[.agg #[.slice none 0 0, .slice none 0 0]] 8 (World.laidAll_os _ _ _)
      (World.shaped_of_ZipB (by kernel_rfl) (by kernel_rfl)) (by kernel_rfl) (by kernel_rfl) (by kernel_rfl)
      trivial) ?_
  intro W base args ds gs before hval0 hW _ hwt hL _
  have hval : ∀ (j : Nat) t v, Try.f9.params[j]? = some t → args[j]? = some v → Value.okWide Try.prog W .any base t v := hval0
  have hpost : ∀ W', Below W.heap.size W W' → Rows.origamiStrataSpec.post enc Try.prog Try.f9 false true false false W args (.bool true) W' := fun W' hb => law_post (by kernel_rfl) (by kernel_rfl) (by kernel_rfl) hW (by kernel_rfl) rfl (fun hg => by
    subst hg
    obtain ⟨p, q, hA0, _⟩ := hW
    have hA : DataW.TrodAll enc Try.prog W 0 (fun _ => true) true Try.f9.params.toList args.toList ds p := hA0
    rw [Try.params9] at hA
    obtain ⟨v0, d0, rfl, rfl, _⟩ := trodAll_one hA
    rfl) rfl Try.underlying4 hb
  have hW0 := hW
  obtain ⟨p, q, hA0, hV, rfl, _, _⟩ := hW0
  have hA : DataW.TrodAll enc Try.prog W 0 (fun _ => true) true Try.f9.params.toList args.toList ds p := hA0
  rw [Try.params9] at hA hval hwt
  obtain ⟨rfl, rfl⟩ := trodVars_none hV
  obtain ⟨v0, d0, rfl, rfl, h0⟩ := trodAll_one hA
  have hwt' : (DataW.weightsEach Try.prog [24] [d0]).all (· ≤ reachBytes) = true := hwt
  have w0 := weights_cons hwt'
  obtain ⟨x0, k0, r0⟩ := RdT.val (by exact rdt24 : RdT Try.prog 24 eO (fun o : Ori => ListP (okI .i64) o.1 ∧ ListP (okI .i64) o.2)) rfl (hval 0 24 v0 rfl rfl) h0 w0.1
  refine Ct.law (vs := #[v0]) (ct_OrigamiStrata x0) ?_ fun W' hb => ⟨_, rfl, hpost W' hb⟩
  exact ⟨k0, trivial⟩
theorem lifted (os : Os) (started : os.Started) (H : Type) (enc : TypeId × Value → H) :
    ReturnsInHanded {} Try.checked os 9 .any (fun w args => Rows.origamiStrataSpec.pre enc Try.prog Try.f9 [] false w args ∧ sizedMet enc Try.prog Try.f9 (OpenSpec.ofChange Rows.origamiStrataSpec) false w args)
      (Rows.origamiStrataSpec.post enc Try.prog Try.f9 false true false false) := by
  have h := lifted0 os started H enc
  simp only [and_true] at h
  exact h
theorem holds : Rows.origamiStrataRow.holds Try.pinned (OpenSpec.ofChange Rows.origamiStrataSpec) :=
  OpenClaim.holds_of_wide 9 Try.f9 rfl rfl rfl rfl rfl rfl rfl ⟨rfl, rfl, rfl, rfl, rfl⟩ rfl rfl rfl rfl rfl (by kernel_rfl) Try.func9 (by kernel_rfl)
    (of_decide_eq_true (by kernel_rfl)) (by unfold Func.isWrapper; first | (rw [if_pos (by decide +kernel)]; kernel_rfl) | (rw [if_neg (by decide +kernel)]; exact ⟨rfl, rfl⟩))
    (fun os started H enc _ => lifted os started H enc)
theorem origamiStrata_holds : Rows.OrigamiStrataSaid := holds
end Go.Proofs.Ytphkjcmonjbpfaa
