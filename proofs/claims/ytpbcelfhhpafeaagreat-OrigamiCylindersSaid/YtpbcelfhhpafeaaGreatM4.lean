/- Laws on walking typed knowledge through code, and contracts. -/
import Derived.Test.YtpbcelfhhpafeaaGreatM3
import Derived.Laws.StructEq
import Derived.OrdersHeld
import Derived.Shelf.SlSortCmp.WholeK

/- Contracts: the reference of chapter 6. -/
namespace Go.Fl
open Go Go.Proofs


theorem ct_rInv2 {n : Nat} (p : List Int) (h : Perm p n) (hn : n ≤ 1000) : Ct Tryz.prog 53 [kRd (eL eI) p] (kRd (eL eI) (invL p)) := by
  have := ct_rInverse p (by have := h.ln; omega)
  rwa [invA_eq h.nd h.rg h.ln] at this
theorem ct_rAft2 {n : Nat} (p q : List Int) (P : Perm p n) (Q : Perm q n) (hn : n ≤ 1000) : Ct Tryz.prog 111 [kRd (eL eI) p, kRd (eL eI) q] (kRd (eL eI) (thenL p q)) :=
  ct_rAfter p q (by have := P.ln; omega) (by rw [Q.ln]; exact P.rg)

set_option maxRecDepth 100000 in
theorem ct_rCycle (n : Nat) (p : List Int) (x : Int) (P : Perm p n) (hx : Sq n x) (hn : n ≤ 1000) : Ct Tryz.prog 54 [kRd (eL eI) p, kI x] (kRd (eL eI) (orb p x)) := by
  have hln := P.ln
  have hx0 := hx.1
  have hx1 := hx.2
  obtain ⟨hp1, hp2, hp3, hp4⟩ := P.pers hx
  refine Ct.mk Tryz.func54 rfl Tryz.ntmps54 rfl (fun w J => ?_)
  refine Tr.seq ?_
  refine Tr.rg ?_
  refine TrL.op (ok_assign rfl (fun _ => rfl)) rfl rfl ?_
  refine TrL.fin ?_
  refine End.nxt ?_
  refine Tr.seq ?_
  refine Tr.rg ?_
  refine TrL.op (ok_move rfl (fun _ => rfl)) rfl rfl ?_
  refine TrL.new (ok_bsl eI 8 (fun hp => .cons rfl <| .nil) rfl rfl rfl rfl) rfl rfl rfl rfl ?_
  refine TrL.op (ok_assign rfl (fun _ => rfl)) rfl rfl ?_
  refine TrL.fin ?_
  refine End.nxt ?_
  refine Tr.seq ?_
  refine Tr.seq ?_
  refine Tr.rg ?_
  refine TrL.op (ok_move rfl (fun _ => rfl)) rfl rfl ?_
  refine TrL.op (ok_move rfl (fun _ => rfl)) rfl rfl ?_
  first | refine TrL.op (ok_idxN rfl (fun _ => rfl) rfl (fun _ => rfl) rfl (fun _ => by omega)) rfl rfl ?_ | refine TrL.op (ok_idxP rfl (fun _ => rfl) rfl (fun _ => rfl) rfl (fun _ => by omega)) rfl rfl ?_
  refine TrL.op (ok_ldP rfl (fun _ => rfl) rfl) rfl rfl ?_
  refine TrL.op (ok_assign rfl (fun _ => rfl)) rfl rfl ?_
  refine TrL.fin ?_
  refine End.nxt ?_
  refine Tr.for1 (σ := Nat) [⟨0, true, _, _⟩, ⟨1, true, _, _⟩] [] (fun m => [⟨5, true, [8], kOsl 8 m⟩, ⟨6, true, [], kI (it p m x)⟩]) (fun m => [⟨8, [], cArr false 3 eI (tab m (fun i => it p i x)) m⟩]) (fun m => 0 < m ∧ m ≤ per p x) (fun m => m = per p x) (fun m => per p x - m) (1) ⟨by omega, by omega⟩ (Ent.mk (.o rfl (by first | rfl | omega | (simp; done) | (simp; omega) | assumption) rfl <| .i rfl (by rfl) <| .k rfl rfl <| .k rfl rfl <| .nil) (.a (by rfl) (by first | rfl | omega | (simp; done) | (simp; omega) | assumption) <| .nil) rfl) ?_ ?_
  · rintro m ⟨hm0, hm1⟩
    refine Tr.norm (S' := [⟨5, true, _, _⟩, ⟨6, true, _, _⟩, ⟨0, true, _, _⟩, ⟨1, true, _, _⟩]) (M' := [⟨8, _, _⟩]) rfl rfl ?_
    have hir := P.its hx m
    have hir0 := hir.1
    have hir1 := hir.2
    refine Tr.seq ?_
    refine Tr.seq ?_
    refine Tr.rg ?_
    refine TrL.op (ok_move rfl (fun _ => rfl)) rfl rfl ?_
    refine TrL.op (ok_move rfl (fun _ => rfl)) rfl rfl ?_
    refine TrL.op (ok_neq rfl (fun _ => rfl) rfl (fun _ => rfl)) rfl rfl ?_
    refine TrL.fin ?_
    refine End.nxt ?_
    refine Tr.cnd rfl ?_ ?_
    · intro h3
      replace h3 := of_decide_eq_true h3
      refine Tr.skip ?_
      refine End.nxt ?_
      refine Tr.seq ?_
      refine Tr.blk ?_
      refine Tr.rg ?_
      refine TrL.op (ok_move rfl (fun _ => rfl)) rfl rfl ?_
      refine TrL.op (ok_move rfl (fun _ => rfl)) rfl rfl ?_
      refine TrL.new (ok_bsl eI 22 (fun hp => .cons rfl <| .nil) rfl rfl rfl rfl) rfl rfl rfl rfl ?_
      refine TrL.app rfl rfl rfl rfl rfl rfl rfl rfl (by first | omega | (simp only [List.length_cons, List.length_nil]; omega)) (by first | omega | (simp only [List.length_cons, List.length_nil]; omega)) ?_
      refine TrL.norm (S' := [⟨_, _, _, _⟩, ⟨_, _, _, _⟩, ⟨_, _, _, _⟩, ⟨_, _, _, _⟩, ⟨_, _, _, _⟩, ⟨_, _, _, _⟩, ⟨_, _, _, _⟩, ⟨_, _, _, _⟩, ⟨_, _, _, _⟩, ⟨_, _, _, _⟩, ⟨_, _, _, _⟩]) rfl rfl ?_
      refine TrL.op (ok_assign rfl (fun _ => rfl)) rfl rfl ?_
      refine TrL.fin ?_
      refine End.blk ?_
      refine End.nxt ?_
      refine Tr.rg ?_
      refine TrL.op (ok_move rfl (fun _ => rfl)) rfl rfl ?_
      refine TrL.op (ok_move rfl (fun _ => rfl)) rfl rfl ?_
      first | refine TrL.op (ok_idxN rfl (fun _ => rfl) rfl (fun _ => rfl) rfl (fun _ => by omega)) rfl rfl ?_ | refine TrL.op (ok_idxP rfl (fun _ => rfl) rfl (fun _ => rfl) rfl (fun _ => by omega)) rfl rfl ?_
      refine TrL.op (ok_ldP rfl (fun _ => rfl) rfl) rfl rfl ?_
      refine TrL.op (ok_assign rfl (fun _ => rfl)) rfl rfl ?_
      refine TrL.fin ?_
      exact End.lp (m + 1) ⟨by omega, by (rcases Nat.lt_or_eq_of_le hm1 with h | h; omega; subst h; exact absurd hp1 h3)⟩ (by (rcases Nat.lt_or_eq_of_le hm1 with h | h; omega; subst h; exact absurd hp1 h3)) (Ent.mk (.o rfl (by first | rfl | omega | (simp; done) | (simp; omega) | assumption) rfl <| .i rfl (by rfl) <| .k rfl rfl <| .k rfl rfl <| .nil) (.a tab_succ.symm (by first | rfl | omega | (simp; done) | (simp; omega) | assumption) <| .nil) rfl)
    · intro h3
      replace h3 := Classical.not_not.1 (of_decide_eq_false h3)
      refine Tr.exit ?_
      refine Exs.thn ?_
      refine Exs.thn ?_
      refine Exs.here ?_
      exact End.cut (m) (by (rcases Nat.lt_or_eq_of_le hm1 with h | h; exact absurd h3 (hp4 m hm0 h); exact h)) (Ent.mk (.o rfl (by first | rfl | omega | (simp; done) | (simp; omega) | assumption) rfl <| .i rfl (by first | rfl | omega | (simp; done) | (simp; omega) | assumption) <| .k rfl rfl <| .k rfl rfl <| .nil) (.a (by first | rfl | omega | (simp; done) | (simp; omega) | assumption) (by first | rfl | omega | (simp; done) | (simp; omega) | assumption) <| .nil) rfl)
  · rintro _ rfl
    refine End.norm (S' := [⟨5, true, _, _⟩, ⟨6, true, _, _⟩, ⟨0, true, _, _⟩, ⟨1, true, _, _⟩]) (M' := [⟨8, _, _⟩]) rfl rfl ?_
    refine End.nxt ?_
    refine Tr.seq ?_
    refine Tr.rg ?_
    refine TrL.op (ok_move rfl (fun _ => rfl)) rfl rfl ?_
    refine TrL.op (ok_assign rfl (fun _ => rfl)) rfl rfl ?_
    refine TrL.fin ?_
    refine End.nxt ?_
    refine Tr.frz 8 [4] ⟨rfl, trivial⟩ (by simp only [lenMax]; omega) rfl ?_
    refine Tr.ret ?_
    exact Rts.res1 (fn := Tryz.f54) rfl (.r rfl (by rfl) <| .nil)

set_option maxRecDepth 100000 in
theorem ct_rComm (o : Ori) (v : Valid o) : Ct Tryz.prog 75 [kRd eO o] (kRd (eL eI) (comm o)) := by
  have hv0 := v.pos
  have hv1 := v.len
  have hv2 := v.le
  refine Ct.mk Tryz.func75 rfl Tryz.ntmps75 rfl (fun w J => ?_)
  refine Tr.seq ?_
  refine Tr.rg ?_
  refine TrL.new (ok_box 1 rfl (fun _ => rfl) rfl) rfl rfl rfl rfl ?_
  refine TrL.op (ok_assign rfl (fun _ => rfl)) rfl rfl ?_
  refine TrL.fin ?_
  refine End.nxt ?_
  refine Tr.seq ?_
  refine Tr.draw 12 mixed (by kernel_rfl) ?_
  refine RunD.op (ok_fldO rfl (fun _ => rfl)) rfl rfl ?_
  refine RunD.op (ok_ldB rfl (fun _ => rfl) rfl) rfl rfl ?_
  refine RunD.op (ok_call (fun hp => ct_rInv2 _ v.pR (by omega)) (.a rfl (fun _ => rfl) <| .nil)) rfl rfl ?_
  refine RunD.op (ok_fldO rfl (fun _ => rfl)) rfl rfl ?_
  refine RunD.op (ok_ldB rfl (fun _ => rfl) rfl) rfl rfl ?_
  refine RunD.op (ok_call (fun hp => ct_rInv2 _ v.pU (by omega)) (.a rfl (fun _ => rfl) <| .nil)) rfl rfl ?_
  refine RunD.op (ok_call (fun hp => ct_rAft2 _ _ v.pR.inv v.pU.inv (by omega)) (.a rfl (fun _ => rfl) <| .a rfl (fun _ => rfl) <| .nil)) rfl rfl ?_
  refine RunD.op (ok_fldO rfl (fun _ => rfl)) rfl rfl ?_
  refine RunD.op (ok_ldB rfl (fun _ => rfl) rfl) rfl rfl ?_
  refine RunD.op (ok_call (fun hp => ct_rAft2 _ _ (v.pR.inv.then v.pU.inv) v.pR (by omega)) (.a rfl (fun _ => rfl) <| .a rfl (fun _ => rfl) <| .nil)) rfl rfl ?_
  refine RunD.op (ok_fldO rfl (fun _ => rfl)) rfl rfl ?_
  refine RunD.op (ok_ldB rfl (fun _ => rfl) rfl) rfl rfl ?_
  refine RunD.z ?_
  refine TrL.op (ok_call (fun hp => ct_rAft2 _ _ ((v.pR.inv.then v.pU.inv).then v.pR) v.pU (by omega)) (.a rfl (fun _ => rfl) <| .a rfl (fun _ => rfl) <| .nil)) rfl rfl ?_
  refine TrL.op (ok_assign rfl (fun _ => rfl)) rfl rfl ?_
  refine TrL.fin ?_
  refine End.nxt ?_
  refine Tr.ret ?_
  exact Rts.res1 (fn := Tryz.f75) rfl (.r rfl (comm_eq v).symm <| .nil)

set_option maxRecDepth 100000 in
theorem ct_rSize (o : Ori) : Ct Tryz.prog 21 [kRd eO o] (kI (o.1.length : Int)) := by
  refine Ct.mk Tryz.func21 rfl Tryz.ntmps21 rfl (fun w J => ?_)
  refine Tr.seq ?_
  refine Tr.rg ?_
  refine TrL.new (ok_box 1 rfl (fun _ => rfl) rfl) rfl rfl rfl rfl ?_
  refine TrL.op (ok_assign rfl (fun _ => rfl)) rfl rfl ?_
  refine TrL.fin ?_
  refine End.nxt ?_
  refine Tr.seq ?_
  refine Tr.rg ?_
  refine TrL.op (ok_fldO rfl (fun _ => rfl)) rfl rfl ?_
  refine TrL.op (ok_ldB rfl (fun _ => rfl) rfl) rfl rfl ?_
  refine TrL.op (ok_lenJ rfl (fun _ => rfl)) rfl rfl ?_
  refine TrL.op (ok_assign rfl (fun _ => rfl)) rfl rfl ?_
  refine TrL.fin ?_
  refine End.nxt ?_
  refine Tr.ret ?_
  exact Rts.res1 (fn := Tryz.f21) rfl (.i rfl (by first | rfl | omega | (simp; done) | (simp; omega) | assumption) <| .nil)

end Go.Fl

/- Contracts: the reference: components, errors, directions, strata. -/
namespace Go.Fl
open Go Go.Proofs


end Go.Fl

/- The reference's orders. Plain Lean, no program in sight. -/
namespace Go.Fl
def dnT (L : List Int) : Nat → List Int
  | 0 => []
  | j + 1 => dnL L j
def filK (X L : List Int) (k i : Nat) : List Int := X ++ (L.take i).filter (eqB k)
end Go.Fl

/- Contracts: the reference: directions, strata; the law of directions. -/
namespace Go.Fl
open Go Go.Proofs


end Go.Fl

/- Errors of maps. Plain Lean, no program in sight. -/
namespace Go.Fl
def ontoB (n : Nat) (f : List Int) : Bool := (List.range n).all fun y : Nat => decide ((y : Int) ∈ f)
def cmE (a b : Ori) (f : List Int) (same : Bool) : Int :=
  orE (chkO a) (orE (chkO b) (if f.length ≠ a.1.length ∨ (same = true ∧ a.1.length ≠ b.1.length) then 10 else if ¬ inR f b.1.length then 2 else if isMapB a b f = true ∧ ontoB b.1.length f = true then 0 else 18))
section
variable {a b : Ori} {f : List Int} {same : Bool}
end
end Go.Fl

/- Contracts: maps that are checked; the law of proofs. -/
namespace Go.Fl
open Go Go.Proofs

end Go.Fl

/- Maps along the search; the reference's maps. Plain Lean, no program in sight. -/
namespace Go.Fl
/-- The state of a map at the k-th square of the search, j neighbours looked at; f0: the map when the square was taken up. -/
structure MpSt (a b : Ori) (s : Int) (k j : Nat) (f0 f : List Int) : Prop where
  st : MapSt a b s (srch a [] 0 k j) f
  kp : Kept a b (srch a [] 0 k j) f k j
  same : ap f (nth (bfsTo a [] 0 k) k) = ap f0 (nth (bfsTo a [] 0 k) k)
section
variable {a b : Ori} {s : Int} {k j : Nat} {f0 f : List Int}
theorem srch_nth (hk : k < (bfsTo a [] 0 k).length) : nth (srch a [] 0 k j) k = nth (bfsTo a [] 0 k) k ∧ k < (srch a [] 0 k j).length := by
  obtain ⟨r, hr⟩ := addL_pre (F := []) (ys := (stp a (nth (bfsTo a [] 0 k) k)).take j) (l := bfsTo a [] 0 k)
  unfold srch
  rw [hr]
  exact ⟨nth_app_l hk, by rw [List.length_append]; omega⟩
theorem MpSt.new (va : Valid a) (hk : k < (bfsTo a [] 0 k).length) (hj : j < 2) (h : MpSt a b s k j f0 f) (hs : Good a.1.length ([] ++ [(0 : Int)])) (vb : Valid b) (e : ap f (nth (stp a (nth (bfsTo a [] 0 k) k)) j) = -1) :
    srch a [] 0 k (j + 1) = srch a [] 0 k j ++ [nth (stp a (nth (bfsTo a [] 0 k) k)) j] ∧ MpSt a b s k (j + 1) f0 (f.set (nth (stp a (nth (bfsTo a [] 0 k) k)) j).toNat (nth (stp b (ap f0 (nth (bfsTo a [] 0 k) k))) j)) := by
  obtain ⟨hn, hl⟩ := srch_nth (j := j) hk
  have hx := srch_x va hs hk
  have hy := stp_nth_sq va hx hj
  have hxm : nth (bfsTo a [] 0 k) k ∈ srch a [] 0 k j := hn ▸ nth_mem hl
  have hz := stp_nth_sq vb (h.st.inn _ hxm) hj
  have hm : nth (stp a (nth (bfsTo a [] 0 k) k)) j ∉ srch a [] 0 k j := fun hh => by
    have := h.st.inn _ hh
    rw [e] at this; have := this.1; omega
  have e1 : srch a [] 0 k (j + 1) = srch a [] 0 k j ++ [nth (stp a (nth (bfsTo a [] 0 k) k)) j] := srch_new hj (by simpa using hm)
  rw [← h.same]
  refine ⟨e1, ⟨?_, ?_, ?_⟩⟩
  · rw [e1]
    exact h.st.more hy hm hz fun g hg e' => by rw [h.st.hom g hg e' _ hxm]; exact hom_stp hg hx hj
  · rw [e1]
    exact Kept.more h.st hl h.kp hy hm hz (by rw [hn]) (by rw [hn])
  · rw [ap_set hy.1 (by rw [h.st.len]; exact hx), if_neg (fun e' => hm (by rw [e']; exact hxm))]
    exact h.same
theorem MpSt.fin (hk : k < (bfsTo a [] 0 k).length) (h : MpSt a b s k 2 f0 f) : MapSt a b s (bfsTo a [] 0 (k + 1)) f ∧ Kept a b (bfsTo a [] 0 (k + 1)) f (k + 1) 0 := by
  have h1 := h.st; have h2 := h.kp
  rw [srch_two hk] at h1 h2
  exact ⟨h1, h2.next⟩
end
noncomputable def covE (a b : Ori) : Int := orE (chk2 a b) (if (mapsL a b).length = 0 then 11 else 0)
noncomputable def covL (a b : Ori) : List Int := if covE a b = 0 then nth (mapsL a b) 0 else []
noncomputable def isoE (a b : Ori) : Int := orE (chk2 a b) (if a.1.length ≠ b.1.length ∨ (mapsL a b).length = 0 then 11 else 0)
noncomputable def isoL (a b : Ori) : List Int := if isoE a b = 0 then nth (mapsL a b) 0 else []
end Go.Fl

/- Elements of an array of the call's own. No program in sight. -/
namespace Go.Fl
open Go Go.RowKit
section
variable {P : Program} {c : Ctx} {S : Slots} {M : Conts} {p : Bool} {d : Option Tmp} {ty : TypeId} {pos : String} {af : Array Edge} {gd : Option (Nat × Bool)} {x y : Operand} {b b' : Bool}
end
end Go.Fl

/- Contracts: maps; the law of maps. -/
namespace Go.Fl
open Go Go.Proofs


end Go.Fl

/- Parts of an origami, cycles of lists. Plain Lean, no program in sight. -/
namespace Go.Fl
structure IsComp (o : Ori) (c : List Int) : Prop where
  nd : c.Nodup
  sq : ∀ x ∈ c, Sq o.1.length x
  R : ∀ x ∈ c, ap o.1 x ∈ c
  U : ∀ x ∈ c, ap o.2 x ∈ c
theorem IsComp.len {o : Ori} {c : List Int} (h : IsComp o c) : c.length ≤ o.1.length := (show Good o.1.length c from ⟨h.nd, h.sq⟩).len
def partF (p c : List Int) (j : Nat) : Int := atL c (ap p (nth c j))
def partO (o : Ori) (c : List Int) : Ori := (tab c.length (partF o.1 c), tab c.length (partF o.2 c))
def partE (o : Ori) (i : Int) : Int := orE (chkO o) (if 0 ≤ i ∧ i < (comps o o.1.length).length then 0 else 6)
def partR (o : Ori) (i : Int) : Ori := if partE o i = 0 then partO o (nth (comps o o.1.length) i.toNat) else ([], [])
def cycE (p : List Int) : Int := if 60 < p.length then 8 else chkL p p.length
end Go.Fl

/- Rows that a struct of the call's own holds: they begin as nil, and are appended to; maps of integers. No program in sight. -/
namespace Go.Fl
open Go Go.RowKit

instance {ks kx out : List Know} [h : SetAt ks 0 kx out] : SetAt ks (0 + 0) kx out := h
/-! ### 1. Cells of which less is said -/
inductive Wk : List Know → List Know → Prop
  | nil : Wk [] []
  | k {k : Know} {ks ls : List Know} (r : Wk ks ls) : Wk (k :: ks) (k :: ls)
  | any {k : Know} {ks ls : List Know} (r : Wk ks ls) : Wk (k :: ks) (kAny :: ls)
theorem Wk.imp {ks ls : List Know} (h : Wk ks ls) {g : Gh} : ∀ {vs : List Value}, allK g ks vs → allK g ls vs := by
  induction h with
  | nil => intro vs h; exact h
  | k _ ih => intro vs h; cases vs with
    | nil => exact h.elim
    | cons v vs => exact ⟨h.1, ih h.2⟩
  | any _ ih => intro vs h; cases vs with
    | nil => exact h.elim
    | cons v vs => exact ⟨trivial, ih h.2⟩
theorem Sat.conC {c : Ctx} {S : Slots} {M M' : Conts} {a : Act} {g : Gh} {w : World} (h : Sat c S M a g w) {v : Nat} {ct ct' : Cont} {dep dep' : List Nat} [hl : LkM M v ct dep] (hc : ∀ g b o, ct g b o → ct' g b o) (hd : CDep ct' dep') (hup : UpM M v ct' dep' M') (hs : ∀ t ∈ dep', t ∈ tags M) : Sat c S M' a g w := by
  have htag := hup.tags
  refine ⟨h.ok, h.slots, fun e he => ?_, fun t ht => ?_, ?_, fun e he => ?_, fun e he => ?_, h.defers, h.size⟩
  · rcases hup.mem h.nodup e he with rfl | ⟨he, _⟩
    · obtain ⟨b, h1, h2⟩ := h.conts _ hl.mem
      exact ⟨b, h1, hc _ _ _ h2⟩
    · exact h.conts e he
  · have := h.dom t ht
    show t ∈ tags M'
    rw [htag]; exact this
  · show (tags M').Nodup
    rw [htag]; exact h.nodup
  · exact ⟨(h.sdep e he).1, fun t ht => by show t ∈ tags M'; rw [htag]; exact (h.sdep e he).2 t ht⟩
  · rcases hup.mem h.nodup e he with rfl | ⟨he, _⟩
    · exact ⟨hd, fun t ht => by show t ∈ tags M'; rw [htag]; exact hs t ht⟩
    · exact ⟨(h.cdep e he).1, fun t ht => by show t ∈ tags M'; rw [htag]; exact (h.cdep e he).2 t ht⟩
/-! ### 2. A nil slice in a struct's cell is a row that is nowhere yet -/
theorem Sat.growC {c : Ctx} {S : Slots} {M M1 : Conts} {a : Act} {g : Gh} {w : World} (h : Sat c S M a g w) (v o u : Nat) {ks ks' : List Know} {dep dep' : List Nat} [hl : LkM M v (cBlk ks) dep] (ho : ks[o]? = some (kDet (.slice none 0 0))) (he : ks' = ks.set o (kOsl u 0)) (hd : CDep (cBlk ks') dep') (hup : UpM M v (cBlk ks') dep' M1)
    (hf : subT [u] (tags M) = false) {α : Type} (et : TypeId) (e : Enc α) (hs : subT dep' (u :: tags M) = true) (hdk : ∀ k ∈ ks, ∃ d, KDep k d ∧ ∀ t ∈ d, t ∈ tags M) : ∃ g', Sat c S (⟨u, [], cArr true et e [] 0⟩ :: M1) a g' w := by
  have hfresh : u ∉ tags M := by
    intro ht
    have : subT [u] (tags M) = true := by
      simp only [subT, Bool.and_true]
      exact List.any_eq_true.2 ⟨u, ht, Nat.beq_refl u⟩
    rw [hf] at this; cases this
  have hnone : g.M u = none := by
    cases hm : g.M u with
    | none => rfl
    | some b => exact absurd (h.dom u (by rw [hm]; simp)) hfresh
  have hle : g.le (g.add u .nil) := ⟨JV.le_refl _, fun t b hb => by
    simp only [Gh.add]
    by_cases ht : t = u
    · subst ht; rw [hnone] at hb; cases hb
    · rw [if_neg ht]; exact hb⟩
  have hblk : ∀ t b cap, (g.add u .nil).M t = some (.blk b cap) → g.M t = some (.blk b cap) := fun t b cap ht => by
    simp only [Gh.add] at ht
    by_cases e : t = u
    · rw [if_pos e] at ht; cases ht
    · rw [if_neg e] at ht; exact ht
  have htag := hup.tags
  refine ⟨g.add u .nil, ⟨⟨h.ok.bel, h.ok.jle, h.ok.jold, h.ok.im, fun t b cap ht => h.ok.own t b cap (hblk _ _ _ ht), fun t t' b c1 c2 h1 h2 => h.ok.inj t t' b c1 c2 (hblk _ _ _ h1) (hblk _ _ _ h2)⟩, h.slots.on h.sdep h.conts hle, fun x hx => ?_, fun t ht => ?_, ?_, fun x hx => ?_, fun x hx => ?_, h.defers, h.size⟩⟩
  · rcases List.mem_cons.1 hx with rfl | hx
    · exact ⟨_, Gh.add_same _ _ _, rfl, rfl⟩
    · rcases hup.mem h.nodup x hx with rfl | ⟨hx, _⟩
      · obtain ⟨b, h1, cs, ty, h2, h3⟩ := h.conts _ hl.mem
        refine ⟨b, hle.2 _ _ h1, cs, ty, h2, ?_⟩
        have hmono : allK (g.add u .nil) ks cs.toList := by
          have : ∀ {ls : List Know} {vs : List Value}, (∀ k ∈ ls, ∃ d, KDep k d ∧ ∀ t ∈ d, t ∈ tags M) → allK g ls vs → allK (g.add u .nil) ls vs := by
            intro ls
            induction ls with
            | nil => intro vs _ h; cases vs <;> exact h
            | cons k ls ih =>
              intro vs hk hh
              cases vs with
              | nil => exact hh.elim
              | cons x vs =>
                obtain ⟨d, q1, q2⟩ := hk k List.mem_cons_self
                exact ⟨know_on h.conts hle q1 q2 hh.1, ih (fun z hz => hk z (List.mem_cons_of_mem _ hz)) hh.2⟩
          exact this hdk h3
        obtain ⟨x, hx1, hx2⟩ := allK_get h3 ho
        have hx2 : x = .slice none 0 0 := hx2
        have := allK_set hmono o (k := kOsl u 0) (v := x) (.inl ⟨Gh.add_same _ _ _, rfl, hx2⟩)
        rw [he]
        have hcs : cs.toList.set o x = cs.toList := by
          refine List.ext_getElem? fun j => ?_
          by_cases e : o = j
          · subst e
            rw [List.getElem?_set_self (List.getElem?_eq_some_iff.1 hx1).1, hx1]
          · rw [List.getElem?_set_ne e]
        rwa [hcs] at this
      · obtain ⟨b, h1, h2⟩ := h.conts x hx
        exact ⟨b, hle.2 _ _ h1, (h.cdep x hx).1.dep hle.1 (fun t ht => by obtain ⟨b, hb⟩ := h.conts.tag ((h.cdep x hx).2 t ht); rw [hb]; exact hle.2 t b hb) h2⟩
  · by_cases e' : t = u
    · subst e'; exact List.mem_cons_self
    · have : g.M t ≠ none := by simpa [Gh.add, e'] using ht
      have := h.dom t this
      exact List.mem_cons_of_mem _ (by show t ∈ tags M1; rw [htag]; exact this)
  · refine List.nodup_cons.2 ⟨?_, ?_⟩
    · show u ∉ tags M1
      rw [htag]; exact hfresh
    · show (tags M1).Nodup
      rw [htag]; exact h.nodup
  · exact ⟨(h.sdep x hx).1, fun t ht => List.mem_cons_of_mem _ (by show t ∈ tags M1; rw [htag]; exact (h.sdep x hx).2 t ht)⟩
  · rcases List.mem_cons.1 hx with rfl | hx
    · exact ⟨inferInstance, fun _ h => by cases h⟩
    · rcases hup.mem h.nodup x hx with rfl | ⟨hx, _⟩
      · refine ⟨hd, fun t ht => ?_⟩
        have := subT_spec hs t ht
        rcases List.mem_cons.1 this with rfl | this
        · exact List.mem_cons_self
        · exact List.mem_cons_of_mem _ (by show t ∈ tags M1; rw [htag]; exact this)
      · exact ⟨(h.cdep x hx).1, fun t ht => List.mem_cons_of_mem _ (by show t ∈ tags M1; rw [htag]; exact (h.cdep x hx).2 t ht)⟩
/-- All of these hang on tags of the list alone. -/
class KsAll (ks : List Know) (L : List Nat) : Prop where
  all : ∀ k ∈ ks, ∃ d, KDep k d ∧ ∀ t ∈ d, t ∈ L
instance {L : List Nat} : KsAll [] L := ⟨fun _ h => by cases h⟩
theorem KsAll.cons {k : Know} {ks : List Know} {L d : List Nat} (h : KDep k d) (hd : subT d L = true) (r : KsAll ks L) : KsAll (k :: ks) L := ⟨fun x hx => by
  rcases List.mem_cons.1 hx with rfl | hx
  · exact ⟨d, h, subT_spec hd⟩
  · exact r.all x hx⟩
/-! ### 3. Maps from integers to integers -/
def cMapI (xs : List Int) (ys : List Int) : Cont := fun g b o => xs.length = ys.length ∧ cMap (xs.map (Value.int .i64)) (ys.map fun y => kI y) g b o
theorem allK_ints {g g' : Gh} : ∀ {ys : List Int} {vs : List Value}, allK g (ys.map fun y => kI y) vs → allK g' (ys.map fun y => kI y) vs
  | [], [], h => h
  | _ :: ys, _ :: vs, h => ⟨h.1, allK_ints (ys := ys) (vs := vs) h.2⟩
  | [], _ :: _, h => h.elim
  | _ :: _, [], h => h.elim
instance {xs ys : List Int} : CDep (cMapI xs ys) [] := ⟨fun _ _ ⟨h0, h1, es, cl, h2, h3, h4⟩ => ⟨h0, h1, es, cl, h2, h3, allK_ints h4⟩⟩
instance (ys : List Int) : KsDep (ys.map fun y => kI y) [] := ⟨fun _ _ h => allK_ints h⟩
section
variable {P : Program} {c : Ctx} {ops : Array Oper} {S : Slots} {M M' : Conts} {rest : List Oper} {Q : Exit → Act → World → Prop}
variable {p : Bool} {d : Option Tmp} {ty : TypeId} {pos : String} {af : Array Edge} {gd : Option (Nat × Bool)} {x y z : Operand} {b b' : Bool} {code : Code}
theorem TrL.wkC (v : Nat) {ks ls : List Know} {dep dep' : List Nat} [hl : LkM M v (cBlk ks) dep] (hw : Wk ks ls) [hd : KsDep ls dep'] [hup : UpM M v (cBlk ls) dep' M'] (hs : subT dep' (tags M) = true) (K : TrL P c ops S M' rest Q) : TrL P c ops S M rest Q :=
  fun a g w h => K a g w (h.conC (ct := cBlk ks) (fun _ _ _ ⟨cs, ty, h1, h2⟩ => ⟨cs, ty, h1, hw.imp h2⟩) inferInstance hup (subT_spec hs))
theorem Tr.growC (v o u : Nat) {ks : List Know} {dep dep' : List Nat} [hl : LkM M v (cBlk ks) dep] (ho : ks[o]? = some (kDet (.slice none 0 0))) {ks' : List Know} (he : ks' = ks.set o (kOsl u 0)) [hd : KsDep ks' dep'] [hup : UpM M v (cBlk ks') dep' M']
    (hf : subT [u] (tags M) = false) {α : Type} (et : TypeId) (e : Enc α) (hs : subT dep' (u :: tags M) = true) (hk : KsAll ks (tags M)) (K : Tr P c S (⟨u, [], cArr true et e [] 0⟩ :: M') code Q) : Tr P c S M code Q :=
  fun a _ w h => let ⟨g', h'⟩ := h.growC v o u ho he inferInstance hup hf et e hs hk.all; K a g' w h'
end
end Go.Fl

/- Contracts: cycles, parts; the law of checks. -/
namespace Go.Fl
open Go Go.Proofs

instance : NB 111 112 := ⟨rfl⟩
end Go.Fl

/- Vertices of corners, horizontal saddle connections. Plain Lean, no program in sight. -/
namespace Go.Fl
/-! ### Which row of a list of disjoint rows an element is on -/
theorem row_uniq {L : List (List Int)} (h : L.flatten.Nodup) {i k : Nat} (hi : i < L.length) (hk : k < L.length) {x : Int} (h1 : x ∈ nth L i) (h2 : x ∈ nth L k) : i = k := by
  have hp := (List.pairwise_flatten.1 h).2
  rw [List.pairwise_iff_getElem] at hp
  have e : ∀ {j : Nat} (hj : j < L.length), nth L j = L[j] := fun hj => nth_of_get? (List.getElem?_eq_getElem hj)
  rw [e hi] at h1; rw [e hk] at h2
  rcases Nat.lt_trichotomy i k with hlt | heq | hgt
  · exact absurd rfl (hp i k hi hk hlt x h1 x h2)
  · exact heq
  · exact absurd rfl (hp k i hk hi hgt x h2 x h1)
/-- Rows that are written into a list, each with its value. -/
def rowTo (L : List (List Int)) (F : Nat → Int) (n : Nat) : Nat → List Int
  | 0 => List.replicate n 0
  | k + 1 => setC (rowTo L F n k) (nth L k) (F k)
theorem rowTo_len {L : List (List Int)} {F : Nat → Int} {n : Nat} : ∀ {k : Nat}, (rowTo L F n k).length = n
  | 0 => by simp [rowTo]
  | k + 1 => by rw [rowTo, setC_len, rowTo_len]
theorem nth_rowTo {L : List (List Int)} {F : Nat → Int} {n : Nat} (h : L.flatten.Nodup) (h0 : ∀ x ∈ L.flatten, 0 ≤ x) {i j : Nat} (hi : i < L.length) (hj : j < n) (hx : (j : Int) ∈ nth L i) : ∀ {k : Nat}, k ≤ L.length → nth (rowTo L F n k) j = if i < k then F i else 0
  | 0, _ => by rw [if_neg (by omega)]; unfold rowTo; exact nth_rep hj
  | k + 1, hk => by
    rw [rowTo, nth_setC (fun x hx => h0 x (List.mem_flatten.2 ⟨_, nth_mem (show k < L.length by omega), hx⟩)) (by rw [rowTo_len]; exact hj)]
    by_cases e : i = k
    · subst e; rw [if_pos hx, if_pos (by omega)]
    · rw [if_neg (fun hh => e (row_uniq h hi (by omega) hx hh)), nth_rowTo h h0 hi hj hx (by omega)]
      by_cases h2 : i < k
      · rw [if_pos h2, if_pos (by omega)]
      · rw [if_neg h2, if_neg (by omega)]
/-! ### Orders and vertices of squares -/
def lenM (L : List (List Int)) (i : Nat) : Int := ((nth L i).length : Int) - 1
def ordV (o : Ori) : List Int := rowTo (vtx o) (lenM (vtx o)) o.1.length (vtx o).length
/-- The order of the lower left corner. -/
def ordF (o : Ori) (x : Int) : Int := ((orb (comm o) x).length : Int) - 1
theorem vtx_has {o : Ori} (v : Valid o) {x : Int} (hx : Sq o.1.length x) : ∃ i, i < (vtx o).length ∧ x ∈ nth (vtx o) i := by
  have h := (flat_perm v.pC v.pos).mem_iff.2 (mem_sqs.2 hx)
  obtain ⟨c, hc, hm⟩ := List.mem_flatten.1 h
  obtain ⟨i, hi, rfl⟩ := List.getElem_of_mem hc
  exact ⟨i, hi, by rw [show nth (vtx o) i = (vtx o)[i] from nth_of_get? (List.getElem?_eq_getElem hi)]; exact hm⟩
theorem vtx_len_of {o : Ori} (v : Valid o) {i : Nat} (hi : i < (vtx o).length) {x : Int} (hx : x ∈ nth (vtx o) i) : ((nth (vtx o) i).length : Int) - 1 = ordF o x := by
  obtain ⟨j, hj, _, hc⟩ := v.pC.cycs_mem (Nat.le_refl _) (nth_mem (xs := vtx o) hi)
  unfold ordF
  rw [hc] at hx ⊢
  rw [orb_len, orb_len, per_orb v.pC (Sq.nat hj) hx]
theorem nth_ordV {o : Ori} (v : Valid o) {x : Int} (hx : Sq o.1.length x) : nth (ordV o) x.toNat = ordF o x := by
  obtain ⟨i, hi, hm⟩ := vtx_has v hx
  have e : ((x.toNat : Nat) : Int) = x := by have := hx.1; omega
  unfold ordV
  rw [nth_rowTo (vtx_good v).nodup (fun y hy => ((vtx_good v).rng y hy).1) hi (by have := hx.1; have := hx.2; omega) (by rw [e]; exact hm) (Nat.le_refl _), if_pos hi]
  exact vtx_len_of v hi hm
theorem ordF_nonneg {o : Ori} (v : Valid o) {x : Int} (hx : Sq o.1.length x) : 0 ≤ ordF o x := by
  have := v.pC.pers hx
  unfold ordF; rw [orb_len]; omega
theorem ordF_zero {o : Ori} (v : Valid o) {x : Int} (hx : Sq o.1.length x) (h : ordF o x = 0) : ap (comm o) x = x := by
  unfold ordF at h
  rw [orb_len] at h
  have := (v.pC.pers hx).1
  rwa [show per (comm o) x = 1 by omega] at this
/-! ### Saddles -/
abbrev SadT := Int × Int × Int × Int × Int × Int
def posO (o : Ori) (x : Int) : Bool := decide (0 < ordF o x)
def sqL (o : Ori) (k : Nat) : List Int := (sqs k).filter (posO o)
/-- How far the next vertex of positive order is. -/
def nxtF (o : Ori) (x : Int) : Nat → Nat → Nat
  | 0, m => m
  | f + 1, m => if 0 < ordF o (it o.1 m x) then m else nxtF o x f (m + 1)
def sadN (o : Ori) (x : Int) : Nat := nxtF o x o.1.length 1
def sadF (o : Ori) (x : Int) : SadT :=
  (x, (sadN o x : Int), nth (vertL o) x.toNat, nth (vertL o) (it o.1 (sadN o x) x).toNat, atL (sqL o o.1.length) (it o.1 (sadN o x) x), atL (sqL o o.1.length) (ap o.2 (ap o.1 (ap (invL o.2) (it o.1 (sadN o x - 1) x)))))
def sadL (o : Ori) (k : Nat) : List SadT := (sqL o k).map (sadF o)
def sadT (o : Ori) (i : Nat) : List SadT := ((sqL o o.1.length).take i).map (sadF o)
end Go.Fl

/- Equal structs; how many keys a map has. No program in sight. -/
namespace Go.Fl
open Go Go.RowKit
/-- A struct type of k integers at which equality can be asked. -/
class TyInts (P : Program) (t : TypeId) (k : Nat) : Prop where
  grd : P.eqGuardType P.depth t = false
  eq : ∀ (xs : List Int) (w : World), xs.length = k → (Op.equalIn 10000 t (.agg (xs.map (Value.int .i64)).toArray) (.agg (xs.map (Value.int .i64)).toArray)).run P w = .ok true w
def intFld (P : Program) (k : Nat) (f : Field) : Bool := (match P.underlying f.type with | some (.int _) => true | _ => false) && decide (f.offset < k)
theorem eqFields_ints {P : Program} (d : Nat) (xs : List Int) (w : World) : ∀ (fs : List Field), fs.all (intFld P xs.length) = true → (Op.eqFields (d + 1) (xs.map (Value.int .i64)).toArray (xs.map (Value.int .i64)).toArray fs).run P w = .ok true w
  | [], _ => by simp [Op.eqFields]
  | f :: fs, h => by
    rw [List.all_cons, Bool.and_eq_true] at h
    obtain ⟨h1, h2⟩ := h
    have ih := eqFields_ints d xs w fs h2
    unfold intFld at h1
    rw [Bool.and_eq_true, decide_eq_true_eq] at h1
    obtain ⟨h3, h4⟩ := h1
    cases hu : P.underlying f.type with
    | none => rw [hu] at h3; cases h3
    | some td =>
      rw [hu] at h3
      cases td with
      | int k =>
        have hp : (part f.type (xs.map (Value.int .i64)).toArray f.offset).run P w = .ok (.int .i64 xs[f.offset]) w := by
          simp [part, isAgg, run_underlying hu, h4]
        rw [Op.eqFields]
        split
        · simp only [Sem.run_bind, hp, Result.andThen_ok, run_equalIn_int w d f.type .i64 k _ _ hu]
          simp [ih]
        · exact ih
      | _ => cases h3
theorem TyInts.mk' {P : Program} {t : TypeId} {k : Nat} (h1 : P.eqGuardType P.depth t = false) (h2 : P.underlying t = some (.struct (P.fieldsOf t))) (h3 : P.stoodInHeld t = false) (h4 : (P.fieldsOf t).toList.all (intFld P k) = true) : TyInts P t k :=
  ⟨h1, fun xs w hl => by
    subst hl
    rw [show (10000 : Nat) = 9999 + 1 from rfl, run_equalIn_struct w 9999 t _ _ h2 h3]
    exact eqFields_ints 9998 xs w _ h4⟩
section
variable {P : Program} {c : Ctx} {S : Slots} {M : Conts} {p : Bool} {d : Option Tmp} {ty : TypeId} {pos : String} {af : Array Edge} {gd : Option (Nat × Bool)} {x y : Operand} {b b' : Bool}
end
end Go.Fl

/- Contracts: saddles. -/
namespace Go.Fl
open Go Go.Proofs

def eSad : Enc SadT := eC (fun v : SadT => (v.1, v.2.1, v.2.2.1, v.2.2.2.1, v.2.2.2.2.1, v.2.2.2.2.2, ())) (eP eI (eP eI (eP eI (eP eI (eP eI (eP eI eU))))))
instance {v : SadT} : CellsK (kRd eSad v) [kI (v.1), kI (v.2.1), kI (v.2.2.1), kI (v.2.2.2.1), kI (v.2.2.2.2.1), kI (v.2.2.2.2.2)] := inferInstanceAs (CellsK (kRd (eC (fun v : SadT => (v.1, v.2.1, v.2.2.1, v.2.2.2.1, v.2.2.2.2.1, v.2.2.2.2.2, ())) (eP eI (eP eI (eP eI (eP eI (eP eI (eP eI eU))))))) v) _)
instance {v : SadT} {tl : List Know} : EncCells eSad v tl (kI (v.1) :: kI (v.2.1) :: kI (v.2.2.1) :: kI (v.2.2.2.1) :: kI (v.2.2.2.2.1) :: kI (v.2.2.2.2.2) :: tl) := inferInstanceAs (EncCells (eC (fun v : SadT => (v.1, v.2.1, v.2.2.1, v.2.2.2.1, v.2.2.2.2.1, v.2.2.2.2.2, ())) (eP eI (eP eI (eP eI (eP eI (eP eI (eP eI eU))))))) v tl _)
instance {v : SadT} : Norm eSad v (kRd eSad v) := ⟨fun h => h⟩
instance {v : SadT} : FieldP eSad v 0 eI (v.1) 0 := inferInstanceAs (FieldP (eC (fun v : SadT => (v.1, v.2.1, v.2.2.1, v.2.2.2.1, v.2.2.2.2.1, v.2.2.2.2.2, ())) (eP eI (eP eI (eP eI (eP eI (eP eI (eP eI eU))))))) v 0 _ _ _)
instance {v : SadT} : FieldP eSad v 1 eI (v.2.1) 1 := inferInstanceAs (FieldP (eC (fun v : SadT => (v.1, v.2.1, v.2.2.1, v.2.2.2.1, v.2.2.2.2.1, v.2.2.2.2.2, ())) (eP eI (eP eI (eP eI (eP eI (eP eI (eP eI eU))))))) v 1 _ _ _)
instance {v : SadT} : FieldP eSad v 2 eI (v.2.2.1) 2 := inferInstanceAs (FieldP (eC (fun v : SadT => (v.1, v.2.1, v.2.2.1, v.2.2.2.1, v.2.2.2.2.1, v.2.2.2.2.2, ())) (eP eI (eP eI (eP eI (eP eI (eP eI (eP eI eU))))))) v 2 _ _ _)
instance {v : SadT} : FieldP eSad v 3 eI (v.2.2.2.1) 3 := inferInstanceAs (FieldP (eC (fun v : SadT => (v.1, v.2.1, v.2.2.1, v.2.2.2.1, v.2.2.2.2.1, v.2.2.2.2.2, ())) (eP eI (eP eI (eP eI (eP eI (eP eI (eP eI eU))))))) v 3 _ _ _)
instance {v : SadT} : FieldP eSad v 4 eI (v.2.2.2.2.1) 4 := inferInstanceAs (FieldP (eC (fun v : SadT => (v.1, v.2.1, v.2.2.1, v.2.2.2.1, v.2.2.2.2.1, v.2.2.2.2.2, ())) (eP eI (eP eI (eP eI (eP eI (eP eI (eP eI eU))))))) v 4 _ _ _)
instance {v : SadT} : FieldP eSad v 5 eI (v.2.2.2.2.2) 5 := inferInstanceAs (FieldP (eC (fun v : SadT => (v.1, v.2.1, v.2.2.1, v.2.2.2.1, v.2.2.2.2.1, v.2.2.2.2.2, ())) (eP eI (eP eI (eP eI (eP eI (eP eI (eP eI eU))))))) v 5 _ _ _)
instance {ks r : List Know} {a b c d e f : Int} [h : RdOf ks (eP eI (eP eI (eP eI (eP eI (eP eI (eP eI eU)))))) (a, b, c, d, e, f, ()) r] : RdOf ks eSad ((a, b, c, d, e, f)) r := ⟨fun h' => h.imp h'⟩

set_option maxRecDepth 100000 in
theorem ct_orders (o : Ori) (v : Valid o) : Ct Tryz.prog 39 [kRd eO o] (kTup [kRd (eL eI) (ordV o), kRd (eL eI) (vertL o)]) := by
  have hv0 := v.pos
  have hv1 := v.len
  have hv2 := v.le
  have hvl := vtx_le (o := o)
  refine Ct.mk Tryz.func39 rfl Tryz.ntmps39 rfl (fun w J => ?_)
  refine Tr.seq ?_
  refine Tr.rg ?_
  refine TrL.new (ok_box 1 rfl (fun _ => rfl) rfl) rfl rfl rfl rfl ?_
  refine TrL.op (ok_assign rfl (fun _ => rfl)) rfl rfl ?_
  refine TrL.op (ok_assign rfl (fun _ => rfl)) rfl rfl ?_
  refine TrL.fin ?_
  refine End.nxt ?_
  refine Tr.seq ?_
  refine Tr.draw 9 mixed (by kernel_rfl) ?_
  refine RunD.op (ok_fldO rfl (fun _ => rfl)) rfl rfl ?_
  refine RunD.op (ok_ldB rfl (fun _ => rfl) rfl) rfl rfl ?_
  refine RunD.op (ok_lenJ rfl (fun _ => rfl)) rfl rfl ?_
  refine RunD.new (ok_makeN eI 11 rfl (fun _ => rfl) rfl (fun _ => rfl) rfl rfl rfl (fun _ => by omega)) rfl rfl rfl rfl ?_
  refine RunD.op (ok_fldO rfl (fun _ => rfl)) rfl rfl ?_
  refine RunD.op (ok_ldB rfl (fun _ => rfl) rfl) rfl rfl ?_
  refine RunD.op (ok_lenJ rfl (fun _ => rfl)) rfl rfl ?_
  refine RunD.new (ok_makeN eI 15 rfl (fun _ => rfl) rfl (fun _ => rfl) rfl rfl rfl (fun _ => by omega)) rfl rfl rfl rfl ?_
  refine RunD.opN (ok_assign rfl (fun _ => rfl)) rfl rfl ?_
  refine RunD.z ?_
  refine TrL.op (ok_assign rfl (fun _ => rfl)) rfl rfl ?_
  refine TrL.fin ?_
  refine End.nxt ?_
  refine Tr.seq ?_
  refine Tr.seq ?_
  refine Tr.rg ?_
  refine TrL.op (ok_ldBS rfl (fun _ => rfl)) rfl rfl ?_
  refine TrL.op (ok_call (fun hp => ct_comm _ v) (.s rfl (fun _ => rfl) rfl <| .nil)) rfl rfl ?_
  refine TrL.op (ok_call (fun hp => ct_cycV o v) (.a rfl (fun _ => rfl) <| .nil)) rfl rfl ?_
  refine TrL.op (ok_lenJ rfl (fun _ => rfl)) rfl rfl ?_
  refine TrL.op (ok_move rfl (fun _ => rfl)) rfl rfl ?_
  refine TrL.fin ?_
  refine End.nxt ?_
  refine Tr.for1 (σ := Nat) [⟨2, true, _, _⟩, ⟨3, true, _, _⟩, ⟨18, true, _, _⟩, ⟨19, true, _, _⟩] [] (fun k => [⟨20, true, [], kI (k : Int)⟩]) (fun k => [⟨11, [], cArr false 3 eI (rowTo (vtx o) (lenM (vtx o)) o.1.length k) o.1.length⟩, ⟨15, [], cArr false 3 eI (vertTo (vtx o) o.1.length k) o.1.length⟩]) (fun k => k ≤ (vtx o).length) (fun k => k = (vtx o).length) (fun k => (vtx o).length - k) (0) (Nat.zero_le _) (Ent.mk (.i rfl (by first | rfl | omega | (simp; done) | (simp; omega) | assumption) <| .k rfl rfl <| .k rfl rfl <| .k rfl rfl <| .k rfl rfl <| .nil) (.a (by rfl) (by first | rfl | omega | (simp; done) | (simp; omega) | assumption) <| .a (by rfl) (by first | rfl | omega | (simp; done) | (simp; omega) | assumption) <| .nil) rfl) ?_ ?_
  · intro k hR0
    refine Tr.norm (S' := [⟨20, true, _, _⟩, ⟨2, true, _, _⟩, ⟨3, true, _, _⟩, ⟨18, true, _, _⟩, ⟨19, true, _, _⟩]) (M' := [⟨11, _, _⟩, ⟨15, _, _⟩]) rfl rfl ?_
    have hrl := fun h => vtx_row_len v (k := k) h
    refine Tr.seq ?_
    refine Tr.rg ?_
    refine TrL.op (ok_lss rfl (fun _ => rfl) rfl (fun _ => rfl)) rfl rfl ?_
    refine TrL.fin ?_
    refine End.nxt ?_
    refine Tr.seq ?_
    refine Tr.cnd rfl ?_ ?_
    · intro h3
      replace h3 := of_decide_eq_true h3
      refine Tr.skip ?_
      refine End.nxt ?_
      refine Tr.seq ?_
      refine Tr.blk ?_
      refine Tr.seq ?_
      refine Tr.rg ?_
      have hrl2 := hrl (by omega)
      refine TrL.op (ok_move rfl (fun _ => rfl)) rfl rfl ?_
      first | refine TrL.op (ok_idxN rfl (fun _ => rfl) rfl (fun _ => rfl) rfl (fun _ => by omega)) rfl rfl ?_ | refine TrL.op (ok_idxP rfl (fun _ => rfl) rfl (fun _ => rfl) rfl (fun _ => by omega)) rfl rfl ?_
      refine TrL.op (ok_ldP rfl (fun _ => rfl) rfl) rfl rfl ?_
      refine TrL.op (ok_assign rfl (fun _ => rfl)) rfl rfl ?_
      refine TrL.op (ok_assign rfl (fun _ => rfl)) rfl rfl ?_
      refine TrL.fin ?_
      refine End.nxt ?_
      refine Tr.seq ?_
      refine Tr.rg ?_
      refine TrL.op (ok_move rfl (fun _ => rfl)) rfl rfl ?_
      refine TrL.op (ok_lenJ rfl (fun _ => rfl)) rfl rfl ?_
      refine TrL.op (ok_move rfl (fun _ => rfl)) rfl rfl ?_
      refine TrL.fin ?_
      refine End.nxt ?_
      refine Tr.for1 (σ := Nat) [⟨2, true, _, _⟩, ⟨3, true, _, _⟩, ⟨4, true, _, _⟩, ⟨5, true, _, _⟩, ⟨18, true, _, _⟩, ⟨19, true, _, _⟩, ⟨20, true, _, _⟩, ⟨25, true, _, _⟩, ⟨26, true, _, _⟩] [] (fun i => [⟨27, true, [], kI (i : Int)⟩]) (fun i => [⟨11, [], cArr false 3 eI (setC (rowTo (vtx o) (lenM (vtx o)) o.1.length k) ((nth (vtx o) k).take i) (lenM (vtx o) k)) o.1.length⟩, ⟨15, [], cArr false 3 eI (setC (vertTo (vtx o) o.1.length k) ((nth (vtx o) k).take i) k) o.1.length⟩]) (fun i => i ≤ (nth (vtx o) k).length) (fun i => i = (nth (vtx o) k).length) (fun i => (nth (vtx o) k).length - i) (0) (Nat.zero_le _) (Ent.mk (.i rfl (by first | rfl | omega | (simp; done) | (simp; omega) | assumption) <| .k rfl rfl <| .k rfl rfl <| .k rfl rfl <| .k rfl rfl <| .k rfl rfl <| .k rfl rfl <| .k rfl rfl <| .k rfl rfl <| .k rfl rfl <| .nil) (.a (by rw [List.take_zero]; rfl) (by first | rfl | omega | (simp; done) | (simp; omega) | assumption) <| .a (by rw [List.take_zero]; rfl) (by first | rfl | omega | (simp; done) | (simp; omega) | assumption) <| .nil) rfl) ?_ ?_
      · intro i hR1
        refine Tr.norm (S' := [⟨27, true, _, _⟩, ⟨2, true, _, _⟩, ⟨3, true, _, _⟩, ⟨4, true, _, _⟩, ⟨5, true, _, _⟩, ⟨18, true, _, _⟩, ⟨19, true, _, _⟩, ⟨20, true, _, _⟩, ⟨25, true, _, _⟩, ⟨26, true, _, _⟩]) (M' := [⟨11, _, _⟩, ⟨15, _, _⟩]) rfl rfl ?_
        refine Tr.seq ?_
        refine Tr.rg ?_
        refine TrL.op (ok_lss rfl (fun _ => rfl) rfl (fun _ => rfl)) rfl rfl ?_
        refine TrL.fin ?_
        refine End.nxt ?_
        refine Tr.seq ?_
        refine Tr.cnd rfl ?_ ?_
        · intro h6
          replace h6 := of_decide_eq_true h6
          refine Tr.skip ?_
          refine End.nxt ?_
          refine Tr.seq ?_
          refine Tr.blk ?_
          refine Tr.seq ?_
          refine Tr.rg ?_
          have hvm := vtx_mem v (i := k) (j := i) (by omega) (by omega)
          first | refine TrL.op (ok_idxN rfl (fun _ => rfl) rfl (fun _ => rfl) rfl (fun _ => by omega)) rfl rfl ?_ | refine TrL.op (ok_idxP rfl (fun _ => rfl) rfl (fun _ => rfl) rfl (fun _ => by omega)) rfl rfl ?_
          refine TrL.op (ok_ldP rfl (fun _ => rfl) rfl) rfl rfl ?_
          refine TrL.op (ok_assign rfl (fun _ => rfl)) rfl rfl ?_
          refine TrL.fin ?_
          refine End.nxt ?_
          refine Tr.rg ?_
          refine TrL.op (ok_move rfl (fun _ => rfl)) rfl rfl ?_
          refine TrL.op (ok_move rfl (fun _ => rfl)) rfl rfl ?_
          refine TrL.op (ok_move rfl (fun _ => rfl)) rfl rfl ?_
          refine TrL.op (ok_move rfl (fun _ => rfl)) rfl rfl ?_
          refine TrL.op (ok_move rfl (fun _ => rfl)) rfl rfl ?_
          refine TrL.op (ok_lenJ rfl (fun _ => rfl)) rfl rfl ?_
          refine TrL.op (ok_sub rfl (fun _ => rfl) rfl (fun _ => rfl) (fun _ => by omega)) rfl rfl ?_
          refine TrL.op (ok_move rfl (fun _ => rfl)) rfl rfl ?_
          first | refine TrL.op (ok_idxEN rfl (fun _ => rfl) rfl (fun _ => rfl) (fun _ => by omega)) rfl rfl ?_ | refine TrL.op (ok_idxE rfl (fun _ => rfl) rfl (fun _ => rfl) (fun _ => by omega)) rfl rfl ?_
          refine TrL.stE rfl rfl rfl rfl rfl ?_
          first | refine TrL.op (ok_idxEN rfl (fun _ => rfl) rfl (fun _ => rfl) (fun _ => by omega)) rfl rfl ?_ | refine TrL.op (ok_idxE rfl (fun _ => rfl) rfl (fun _ => rfl) (fun _ => by omega)) rfl rfl ?_
          refine TrL.stE rfl rfl rfl rfl rfl ?_
          refine TrL.fin ?_
          refine End.blk ?_
          refine End.nxt ?_
          refine Tr.rg ?_
          refine TrL.op (ok_add rfl (fun _ => rfl) rfl (fun _ => rfl) (fun _ => by omega)) rfl rfl ?_
          refine TrL.op (ok_move rfl (fun _ => rfl)) rfl rfl ?_
          refine TrL.fin ?_
          exact End.lp (i + 1) (by first | rfl | omega | (simp; done) | (simp; omega) | assumption) (by omega) (Ent.mk (.i rfl (by first | rfl | omega | (simp; done) | (simp; omega) | assumption) <| .k rfl rfl <| .k rfl rfl <| .k rfl rfl <| .k rfl rfl <| .k rfl rfl <| .k rfl rfl <| .k rfl rfl <| .k rfl rfl <| .k rfl rfl <| .nil) (.a (by rw [take_succ_nth (by omega), setC_snoc]; rfl) (by first | rfl | omega | (simp; done) | (simp; omega) | assumption) <| .a (by rw [take_succ_nth (by omega), setC_snoc]) (by first | rfl | omega | (simp; done) | (simp; omega) | assumption) <| .nil) rfl)
        · intro h6
          replace h6 := Int.not_lt.1 (of_decide_eq_false h6)
          refine Tr.exit ?_
          refine Exs.thn ?_
          refine Exs.thn ?_
          refine Exs.here ?_
          exact End.cut (i) (by omega) (Ent.mk (.i rfl (by first | rfl | omega | (simp; done) | (simp; omega) | assumption) <| .k rfl rfl <| .k rfl rfl <| .k rfl rfl <| .k rfl rfl <| .k rfl rfl <| .k rfl rfl <| .k rfl rfl <| .k rfl rfl <| .k rfl rfl <| .nil) (.a (by first | rfl | omega | (simp; done) | (simp; omega) | assumption) (by first | rfl | omega | (simp; done) | (simp; omega) | assumption) <| .a (by first | rfl | omega | (simp; done) | (simp; omega) | assumption) (by first | rfl | omega | (simp; done) | (simp; omega) | assumption) <| .nil) rfl)
      · rintro _ rfl
        refine End.norm (S' := [⟨27, true, _, _⟩, ⟨2, true, _, _⟩, ⟨3, true, _, _⟩, ⟨4, true, _, _⟩, ⟨5, true, _, _⟩, ⟨18, true, _, _⟩, ⟨19, true, _, _⟩, ⟨20, true, _, _⟩, ⟨25, true, _, _⟩, ⟨26, true, _, _⟩]) (M' := [⟨11, _, _⟩, ⟨15, _, _⟩]) rfl rfl ?_
        refine End.blk ?_
        refine End.nxt ?_
        refine Tr.rg ?_
        refine TrL.op (ok_add rfl (fun _ => rfl) rfl (fun _ => rfl) (fun _ => by omega)) rfl rfl ?_
        refine TrL.op (ok_move rfl (fun _ => rfl)) rfl rfl ?_
        refine TrL.fin ?_
        exact End.lp (k + 1) (by first | rfl | omega | (simp; done) | (simp; omega) | assumption) (by omega) (Ent.mk (.i rfl (by first | rfl | omega | (simp; done) | (simp; omega) | assumption) <| .k rfl rfl <| .k rfl rfl <| .k rfl rfl <| .k rfl rfl <| .nil) (.a (by rw [List.take_length]; rfl) (by first | rfl | omega | (simp; done) | (simp; omega) | assumption) <| .a (by rw [List.take_length]; rfl) (by first | rfl | omega | (simp; done) | (simp; omega) | assumption) <| .nil) rfl)
    · intro h3
      replace h3 := Int.not_lt.1 (of_decide_eq_false h3)
      refine Tr.exit ?_
      refine Exs.thn ?_
      refine Exs.thn ?_
      refine Exs.here ?_
      exact End.cut (k) (by omega) (Ent.mk (.i rfl (by first | rfl | omega | (simp; done) | (simp; omega) | assumption) <| .k rfl rfl <| .k rfl rfl <| .k rfl rfl <| .k rfl rfl <| .nil) (.a (by first | rfl | omega | (simp; done) | (simp; omega) | assumption) (by first | rfl | omega | (simp; done) | (simp; omega) | assumption) <| .a (by first | rfl | omega | (simp; done) | (simp; omega) | assumption) (by first | rfl | omega | (simp; done) | (simp; omega) | assumption) <| .nil) rfl)
  · rintro _ rfl
    refine End.norm (S' := [⟨20, true, _, _⟩, ⟨2, true, _, _⟩, ⟨3, true, _, _⟩, ⟨18, true, _, _⟩, ⟨19, true, _, _⟩]) (M' := [⟨11, _, _⟩, ⟨15, _, _⟩]) rfl rfl ?_
    refine End.nxt ?_
    refine Tr.seq ?_
    refine Tr.rg ?_
    refine TrL.op (ok_move rfl (fun _ => rfl)) rfl rfl ?_
    refine TrL.op (ok_move rfl (fun _ => rfl)) rfl rfl ?_
    refine TrL.op (ok_assign rfl (fun _ => rfl)) rfl rfl ?_
    refine TrL.op (ok_assign rfl (fun _ => rfl)) rfl rfl ?_
    refine TrL.fin ?_
    refine End.nxt ?_
    refine Tr.frz 11 [2] ⟨rfl, trivial⟩ (by simp only [lenMax]; omega) rfl ?_
    refine Tr.frz 15 [3] ⟨rfl, trivial⟩ (by simp only [lenMax]; omega) rfl ?_
    refine Tr.ret ?_
    exact Rts.res (fn := Tryz.f39) (ts := [2, 3]) rfl rfl (.r rfl (by rfl) <| .r rfl (by rfl) <| .nil)

set_option maxRecDepth 100000 in
theorem ct_rOrder (o : Ori) (x : Int) (v : Valid o) (hx : Sq o.1.length x) : Ct Tryz.prog 86 [kRd eO o, kI x] (kI (ordF o x)) := by
  have hv0 := v.pos
  have hv1 := v.len
  have hv2 := v.le
  have hps := v.pC.pers hx
  have hol := orb_len (p := comm o) (x := x)
  refine Ct.mk Tryz.func86 rfl Tryz.ntmps86 rfl (fun w J => ?_)
  refine Tr.seq ?_
  refine Tr.rg ?_
  refine TrL.new (ok_box 2 rfl (fun _ => rfl) rfl) rfl rfl rfl rfl ?_
  refine TrL.op (ok_assign rfl (fun _ => rfl)) rfl rfl ?_
  refine TrL.fin ?_
  refine End.nxt ?_
  refine Tr.seq ?_
  refine Tr.rg ?_
  refine TrL.op (ok_ldBS rfl (fun _ => rfl)) rfl rfl ?_
  refine TrL.op (ok_call (fun hp => ct_rComm _ v) (.s rfl (fun _ => rfl) rfl <| .nil)) rfl rfl ?_
  refine TrL.op (ok_move rfl (fun _ => rfl)) rfl rfl ?_
  refine TrL.op (ok_call (fun hp => ct_rCycle _ _ _ v.pC hx (by omega)) (.a rfl (fun _ => rfl) <| .a rfl (fun _ => rfl) <| .nil)) rfl rfl ?_
  refine TrL.op (ok_lenJ rfl (fun _ => rfl)) rfl rfl ?_
  refine TrL.op (ok_sub rfl (fun _ => rfl) rfl (fun _ => rfl) (fun _ => by omega)) rfl rfl ?_
  refine TrL.op (ok_assign rfl (fun _ => rfl)) rfl rfl ?_
  refine TrL.fin ?_
  refine End.nxt ?_
  refine Tr.ret ?_
  exact Rts.res1 (fn := Tryz.f86) rfl (.i rfl (by rfl) <| .nil)

end Go.Fl

/- A row of the call's own may be lent to a call that only reads; regions that draw their order, some of whose operations write: what yields the same in any world may come first, the rest is gone through as it may come up. No program in sight. -/
namespace Go.Fl
open Go Go.RowKit

/-! ### 1. Lending -/
class KFree (k : Know) : Prop where
  go : ∀ {g g' : Gh} {v : Value}, k g v → k g' v
instance {v : Value} : KFree (kDet v) := ⟨fun h => h⟩
theorem allK_mono {J J' : JV} (hJ : J.le J') : ∀ {ks : List Know} {vs : List Value}, (∀ k ∈ ks, KDep k []) → allK ⟨J, noM⟩ ks vs → allK ⟨J', noM⟩ ks vs
  | [], [], _, _ => trivial
  | [], _ :: _, _, h => h.elim
  | _ :: _, [], _, h => h.elim
  | k :: ks, v :: vs, hk, h => ⟨(hk k List.mem_cons_self).dep (g := ⟨J, noM⟩) hJ (fun _ h => by cases h) h.1, allK_mono hJ (fun x hx => hk x (List.mem_cons_of_mem _ hx)) h.2⟩
section
variable {P : Program} {c : Ctx} {S : Slots} {M : Conts} {p : Bool} {d : Option Tmp} {ty : TypeId} {pos : String} {af : Array Edge} {gd : Option (Nat × Bool)}
variable {x y z : Operand} {b b' b'' : Bool}
end

/-! ### 2. Any order, gone through -/
def onlyN (Q : Exit → Act → World → Prop) : Exit → Act → World → Prop := fun e a w => e = .normal ∧ Q .normal a w
def Nx (K : Act → World → Prop) : Exit → Act → World → Prop := fun e a w => e = .normal ∧ K a w
def TrA (P : Program) (c : Ctx) (ops : Array Oper) (Q : Exit → Act → World → Prop) (Sp : World → Prop) (n : Nat) (listed : Array Bool) (S : Slots) (M : Conts) : Prop :=
  ∀ a g w, Sat c S M a g w → Sp w → wpAnyH P .any ops (onlyN Q) Sp n listed a w
/-- The operation yields one value in every world that meets Sp. -/
def YOk (P : Program) (c : Ctx) (S : Slots) (M : Conts) (Sp : World → Prop) (o : Oper) (k : Know) : Prop :=
  ∀ a g w, Sat c S M a g w → Sp w → ∃ v, (∀ w', Sp w' → (execOp a.eval o).run P w' = .ok (.value v) w') ∧ k g v
theorem Oper.wp_onN {P : Program} {o : Oper} {a : Act} {w : World} {K K' : Act → World → Prop} {Q : Exit → Act → World → Prop}
    (h : o.wp P a w K (Nx K')) : o.wp P a w K Q := by
  unfold Oper.wp at *
  generalize (execOp a.eval o).run P w = r at *
  cases r with
  | ok n w' =>
    cases n <;> simp only [Oper.upon] at h ⊢ <;>
      first
        | exact h
        | exact Calls.mono h (fun e w'' he => by
            cases e with
            | returned v => exact he
            | panicked ch => exact absurd he.1 (by simp)
            | outgrown => obtain ⟨_, _, hf⟩ := he; exact absurd hf.1 (by simp))
        | exact Rows.mono h (fun _ _ he => he)
        | exact absurd h.1 (by simp)
  | halt x w' =>
    cases x <;> simp only [Oper.upon] at h ⊢ <;> first | exact absurd h.1 (by simp) | exact h
section
variable {P : Program} {c : Ctx} {ops : Array Oper} {S : Slots} {M : Conts} {Q : Exit → Act → World → Prop} {Sp : World → Prop} {n : Nat} {listed : Array Bool}
variable {d : Nat} {oop : Op} {ty : TypeId} {pos : String} {af : Array Edge}
theorem TrA.take (i : Nat) (listed' : Array Bool) {k : Know} {dep : List Nat} (hs : Region.noSelect ops = true) (hf : Region.free .any ops listed i = true) (hr : (Region.ready .any ops listed).contains i = true) (hset : listed.setIfInBounds i true = listed')
    (hi : ops[i]? = some ⟨some d, oop, ty, pos, af, none⟩) (hy : YOk P c S M Sp ⟨some d, oop, ty, pos, af, none⟩ k) [hk : KDep k dep] (hsub : subT dep (tags M) = true) (hn : Nat.blt d c.n = true)
    (K : TrA P c ops Q Sp n listed' (⟨d, true, dep, k⟩ :: S) M) : TrA P c ops Q Sp (n + 1) listed S M := by
  intro a g w hsat hsp
  obtain ⟨v, h1, h2⟩ := hy a g w hsat hsp
  refine wpAnyH_take hi hs hf hr (fun _ _ _ h => absurd h.1 (by simp)) (.inl ⟨rfl, h1⟩) hsp ?_
  rw [hset]
  exact K _ g _ (hsat.did (Did.same hsat.ok h2) (fun _ h => by cases h) hk (subT_spec hsub) (by simpa [Nat.blt_eq] using hn)) hsp
theorem TrA.all (rs : List Nat) (hr : Region.ready .any ops listed = rs) (hne : rs ≠ [])
    (h : ∀ i ∈ rs, ∃ o, ops[i]? = some o ∧ TrL P c ops S M [o] (Nx fun a w => Sp w ∧ wpAnyH P .any ops (onlyN Q) Sp n (listed.setIfInBounds i true) a w)) : TrA P c ops Q Sp (n + 1) listed S M := by
  intro a g w hsat _
  refine wpAnyH_all hr hne fun i hi => ?_
  obtain ⟨o, ho, ht⟩ := h i hi
  have h1 := ht a g w hsat
  unfold wpOp
  rw [ho]
  simp only [wpList] at h1
  simp only
  split
  · rename_i hw
    rw [if_pos hw] at h1
    rcases h1 with h1 | ⟨_, _, _, h1⟩
    · exact .inl (Oper.wp_mono (fun _ _ h => h.2) (Oper.wp_onN h1))
    · exact absurd h1.1 (by simp)
  · rename_i hw
    rw [if_neg hw] at h1
    exact h1.2
theorem TrA.one (i : Nat) (hr : Region.ready .any ops listed = [i]) {o : Oper} (ho : ops[i]? = some o)
    (h : TrL P c ops S M [o] (Nx fun a w => Sp w ∧ wpAnyH P .any ops (onlyN Q) Sp n (listed.setIfInBounds i true) a w)) : TrA P c ops Q Sp (n + 1) listed S M :=
  TrA.all [i] hr (by simp) (fun j hj => by rw [List.mem_singleton] at hj; subst hj; exact ⟨o, ho, h⟩)
theorem TrA.k {listed0 : Array Bool} (listed' : Array Bool) (hl : listed0 = listed') (hSp : ∀ a g w, Sat c S M a g w → Sp w) (K : TrA P c ops Q Sp n listed' S M) : TrL P c ops S M [] (Nx fun a w => Sp w ∧ wpAnyH P .any ops (onlyN Q) Sp n listed0 a w) :=
  fun a g w hs => wpList_nil ⟨rfl, hSp a g w hs, by rw [hl]; exact K a g w hs (hSp a g w hs)⟩
theorem TrA.done (hr : Region.ready .any ops listed = []) (h : End c S M Q) : TrA P c ops Q Sp n listed S M := fun a g w hs _ => wpAnyH_done hr ⟨rfl, h a g w hs⟩ n
/-! ### 3. Blocks that nobody writes -/
def cPin (ct : Cont) (q : Bk × Option Obj) : Cont := fun g bk o => ct g bk o ∧ bk = q.1 ∧ o = q.2
instance {ct : Cont} {q : Bk × Option Obj} {dep : List Nat} [h : CDep ct dep] : CDep (cPin ct q) dep := ⟨fun hl hd ⟨h1, h2⟩ => ⟨h.dep hl hd h1, h2⟩⟩
def pinM (f : Nat → Bk × Option Obj) (M : Conts) : Conts := M.map fun e => ⟨e.t, e.dep, cPin e.c (f e.t)⟩
def pinS (f : Nat → Bk × Option Obj) (M : Conts) : World → Prop := fun w => ∀ e ∈ M, World.objAt w (f e.t).1 = (f e.t).2
end

/-! ### 4. What yields the same in any world -/
section
variable {P : Program} {c : Ctx} {S : Slots} {M : Conts} {Sp : World → Prop} {d : Option Tmp} {ty : TypeId} {pos : String} {af : Array Edge} {gd : Option (Nat × Bool)} {x y : Operand}
end
end Go.Fl

/- The search, one neighbour after the other. Plain Lean, no program in sight. -/
namespace Go.Fl
end Go.Fl

/- Contracts: the labels of the reference; the law of labels. -/
namespace Go.Fl
open Go Go.Proofs

instance : NB 9 12 := ⟨rfl⟩
end Go.Fl

/- Contracts: the label of the reference; the law of labels. -/
namespace Go.Fl
open Go Go.Proofs

end Go.Fl

/- Functions that change a block which the caller lends by a pointer: their walk. No program in sight. -/
namespace Go.Fl
open Go Go.RowKit

/-- A pointer into the call's own thing t, of which the block is known by name. -/
def kOwnAt (t o bl : Nat) : Know := fun g v => (∃ cap, g.M t = some (.blk bl cap)) ∧ v = .pointer (some ⟨bl, o, none⟩)
instance (t o bl : Nat) : KDep (kOwnAt t o bl) [t] := ⟨fun _ hd ⟨⟨cap, h1⟩, h2⟩ => ⟨⟨cap, (hd t (by simp)).trans h1⟩, h2⟩⟩
instance (t o bl : Nat) : KHas (kOwnAt t o bl) t := ⟨fun ⟨⟨cap, h1⟩, _⟩ => by rw [h1]; simp⟩
theorem kOwnAt.own {t o bl : Nat} {g : Gh} {v : Value} (h : kOwnAt t o bl g v) : kOwn t o g v := let ⟨⟨cap, h1⟩, h2⟩ := h; ⟨bl, cap, h1, h2⟩
section
variable {P : Program} {c : Ctx} {S : Slots} {M : Conts} {p : Bool} {d : Option Tmp} {ty : TypeId} {pos : String} {af : Array Edge} {gd : Option (Nat × Bool)} {x : Operand} {b : Bool} {Sp : World → Prop}
end
def RetB (w : World) (J : JV) (b cap : Nat) (res : Know) (ct' : Cont) : Ending → World → Prop := fun e w' => ∃ r J', e = .returned r ∧ But (.blk b cap) w w' ∧ J.le J' ∧ (∀ b' o, b' < w.heap.size → J' b' o = J b' o) ∧ Im J' w' ∧ res ⟨J', noM⟩ r ∧ ct' (g1 J' b cap) (.blk b cap) w'.heap[b]?
theorem allK_sameJ {g g' : Gh} (hJ : g.J.le g'.J) : ∀ {ks : List Know} {vs : List Value}, (∀ k ∈ ks, KDep k []) → allK g ks vs → allK g' ks vs
  | [], [], _, _ => trivial
  | [], _ :: _, _, h => h.elim
  | _ :: _, [], _, h => h.elim
  | k :: ks, v :: vs, hk, h => ⟨(hk k List.mem_cons_self).dep hJ (fun _ h => by cases h) h.1, allK_sameJ hJ (fun x hx => hk x (List.mem_cons_of_mem _ hx)) h.2⟩
theorem CtB.mk {P : Program} {f : FuncId} {fn : Func} {code : Code} {args : List Know} {res : Know} {ct ct' : Cont} {n : Nat} (hf : P.funcs[f]? = some fn) (hb : fn.body = some code) (hn : fn.ntmps = n) (hl : Nat.ble (args.length + 1) n = true) [hj : AllJ args] [hcd : CDep ct []]
    (h : ∀ w J b cap, Tr P ⟨w, J, [b], n⟩ (⟨0, true, [0], kOwnAt 0 0 b⟩ :: params 1 args) [⟨0, [], ct⟩] code (bodyPost P fn (RetB w J b cap res ct'))) : CtB P f (kOwn 0 0) args ct ct' res := by
  intro w J b cap him hJ hlt hct v vs hv hvs
  have hlen := allK_len hvs
  have hle : args.length + 1 ≤ n := Nat.le_of_ble_eq_true hl
  have hM : ∀ t bk, (g1 J b cap).M t = some bk → t = 0 ∧ bk = .blk b cap := fun t bk ht => by
    simp only [g1] at ht
    split at ht
    · rename_i e; cases ht; exact ⟨e, rfl⟩
    · cases ht
  refine calls_of_wp hf hb (h w J b cap _ (g1 J b cap) w ⟨⟨⟨rfl, rfl, rfl, Nat.le_refl _, fun _ _ _ => rfl, Nat.le_refl _⟩, JV.le_refl _, fun _ _ _ => rfl, him, fun t b' cap' ht => ?_, fun t t' b1 c1 c2 h1 h2 => ?_⟩, ?_, ?_, ?_, by simp, ?_, ?_, rfl, ?_⟩)
  · obtain ⟨_, e⟩ := hM _ _ ht
    cases e
    exact ⟨.inr (by simp), hlt, hJ⟩
  · rw [(hM _ _ h1).1, (hM _ _ h2).1]
  · intro t bb k hk
    simp only [look] at hk
    cases hb0 : Nat.beq 0 t with
    | true =>
      rw [hb0] at hk
      simp only [cond_true, Option.some.injEq, Prod.mk.injEq] at hk
      obtain ⟨rfl, rfl⟩ := hk
      have := Nat.eq_of_beq_eq_true hb0
      subst this
      refine ⟨fun _ => ?_, fun hf => (by cases hf)⟩
      obtain ⟨b', cap', h1, h2⟩ := hv
      obtain ⟨_, e⟩ := hM _ _ h1
      cases e
      have : ((v :: vs).toArray ++ Array.replicate (fn.ntmps - (v :: vs).toArray.size) undef).getD 0 undef = v := by
        rw [Array.getD_eq_getD_getElem?, Array.getElem?_append_left (by simp)]
        simp
      rw [this]
      exact ⟨⟨cap, by simp [g1]⟩, h2⟩
    | false =>
      rw [hb0] at hk
      obtain ⟨h1, rfl, u, hu, hku⟩ := params_hold (g := g1 J b cap) (allK_sameJ (g := ⟨J, noM⟩) (g' := g1 J b cap) (JV.le_refl _) hj.all hvs) hk
      refine ⟨fun _ => ?_, fun hf => (by cases hf)⟩
      have hu' : (v :: vs)[t]? = some u := by
        rw [show t = (t - 1) + 1 by omega]; simpa using hu
      have ht : t < (v :: vs).length := (List.getElem?_eq_some_iff.1 hu').1
      have : ((v :: vs).toArray ++ Array.replicate (fn.ntmps - (v :: vs).toArray.size) undef).getD t undef = u := by
        rw [Array.getD_eq_getD_getElem?, Array.getElem?_append_left (by simpa using ht)]
        simp only [List.getElem?_toArray]
        rw [hu']; rfl
      rw [this]; exact hku
  · intro e he
    simp only [List.mem_singleton] at he
    subst he
    exact ⟨_, by simp [g1], hct⟩
  · intro t ht
    cases hm : (g1 J b cap).M t with
    | none => exact absurd hm ht
    | some bk => simp [(hM _ _ hm).1]
  · intro e he
    rcases List.mem_cons.1 he with rfl | he
    · exact ⟨inferInstance, fun t ht => by simpa using ht⟩
    · obtain ⟨h1, h2⟩ := params_dep hj.all he
      exact ⟨h1, fun t ht => by rw [h2] at ht; cases ht⟩
  · intro e he
    simp only [List.mem_singleton] at he
    subst he
    exact ⟨hcd, fun t ht => by cases ht⟩
  · simp only [Array.size_append, List.size_toArray, Array.size_replicate, List.length_cons]; omega
section
variable {P : Program} {n : Nat} {w0 : World} {J0 : JV} {S : Slots} {M : Conts} {fn : Func} {b cap t : Nat} {ct ct' : Cont} {dep : List Nat}
end
class AllFree (ks : List Know) : Prop where
  all : ∀ k ∈ ks, KFree k
instance : AllFree [] := ⟨fun _ h => by cases h⟩
instance {k : Know} {ks : List Know} [h : KFree k] [hs : AllFree ks] : AllFree (k :: ks) := ⟨fun x hx => by
  rcases List.mem_cons.1 hx with rfl | hx
  · exact h
  · exact hs.all x hx⟩
end Go.Fl

/- Lattices in the plane of integers: the normal form is unique, a further vector. Plain Lean, no program in sight. -/
namespace Go.Fl
abbrev V2 := Int × Int
abbrev L3 := Int × Int × Int
/-- The lattice of (A, 0) and (B, C). -/
def InL (l : L3) (w : V2) : Prop := ∃ m n : Int, w.1 = m * l.1 + n * l.2.1 ∧ w.2 = n * l.2.2
structure NF (l : L3) : Prop where
  a : 0 ≤ l.1
  c : 0 ≤ l.2.2
  b : 0 < l.1 → 0 ≤ l.2.1 ∧ l.2.1 < l.1
  z : l.2.2 = 0 → l.2.1 = 0
theorem InL.zero {l : L3} : InL l (0, 0) := ⟨0, 0, by simp, by simp⟩
theorem InL.add {l : L3} {v w : V2} (h : InL l v) (k : InL l w) : InL l (v.1 + w.1, v.2 + w.2) := by
  obtain ⟨m, n, h1, h2⟩ := h
  obtain ⟨p, q, k1, k2⟩ := k
  refine ⟨m + p, n + q, ?_, ?_⟩
  · show v.1 + w.1 = _
    rw [h1, k1, Int.add_mul, Int.add_mul]; omega
  · show v.2 + w.2 = _
    rw [h2, k2, Int.add_mul]
theorem InL.smul {l : L3} {v : V2} (h : InL l v) (k : Int) : InL l (k * v.1, k * v.2) := by
  obtain ⟨m, n, h1, h2⟩ := h
  refine ⟨k * m, k * n, ?_, ?_⟩
  · show k * v.1 = _
    rw [h1, Int.mul_add, Int.mul_assoc, Int.mul_assoc]
  · show k * v.2 = _
    rw [h2, Int.mul_assoc]
theorem InL.A {l : L3} : InL l (l.1, 0) := ⟨1, 0, by simp, by simp⟩
theorem InL.B {l : L3} : InL l (l.2.1, l.2.2) := ⟨0, 1, by simp, by simp⟩
theorem InL.dvdC {l : L3} {w : V2} (h : InL l w) : l.2.2 ∣ w.2 := by
  obtain ⟨_, n, _, h2⟩ := h
  exact ⟨n, by rw [h2, Int.mul_comm]⟩
theorem InL.dvdA {l : L3} (nf : NF l) {x : Int} (h : InL l (x, 0)) : l.1 ∣ x := by
  obtain ⟨m, n, h1, h2⟩ := h
  simp only at h1 h2
  have : n * l.2.1 = 0 := by
    rcases Int.mul_eq_zero.1 h2.symm with e | e
    · rw [e, Int.zero_mul]
    · rw [nf.z e, Int.mul_zero]
  exact ⟨m, by rw [h1, this, Int.mul_comm]; omega⟩
theorem NF.uniq {l l' : L3} (h : NF l) (h' : NF l') (e : ∀ w, InL l w ↔ InL l' w) : l = l' := by
  have hC : l.2.2 = l'.2.2 := Int.dvd_antisymm h.c h'.c (InL.dvdC ((e _).2 InL.B)) (InL.dvdC ((e _).1 InL.B))
  have hA : l.1 = l'.1 := Int.dvd_antisymm h.a h'.a (InL.dvdA h ((e _).2 InL.A)) (InL.dvdA h' ((e _).1 InL.A))
  have hB : l.2.1 = l'.2.1 := by
    by_cases hz : l.2.2 = 0
    · rw [h.z hz, h'.z (hC ▸ hz)]
    · obtain ⟨m, n, h1, h2⟩ := (e (l.2.1, l.2.2)).1 InL.B
      simp only at h1 h2
      have hn : n = 1 := by
        rw [← hC] at h2
        have : (n - 1) * l.2.2 = 0 := by rw [Int.sub_mul, ← h2]; omega
        rcases Int.mul_eq_zero.1 this with q | q
        · omega
        · exact absurd q hz
      subst hn
      by_cases hA0 : l'.1 = 0
      · rw [hA0] at h1; omega
      · have hp : 0 < l'.1 := by have := h'.a; omega
        have b1 := h.b (hA ▸ hp)
        have b2 := h'.b hp
        rw [hA] at b1
        have hm : m = 0 := by
          rcases Int.lt_trichotomy m 0 with q | q | q
          · have : m * l'.1 ≤ (-1) * l'.1 := Int.mul_le_mul_of_nonneg_right (by omega) (by omega)
            omega
          · exact q
          · have : 1 * l'.1 ≤ m * l'.1 := Int.mul_le_mul_of_nonneg_right (by omega) (by omega)
            omega
        subst hm
        omega
  obtain ⟨a, b, c⟩ := l
  obtain ⟨a', b', c'⟩ := l'
  simp only at hA hB hC
  rw [hA, hB, hC]

/-! ### Any generators -/
theorem bezN (m n : Nat) : ∃ a b : Int, (Nat.gcd m n : Int) = m * a + n * b := by
  induction m, n using Nat.gcd.induction with
  | H0 n => exact ⟨0, 1, by simp⟩
  | H1 m n _ ih =>
    obtain ⟨a, b, e⟩ := ih
    refine ⟨b - (n / m : Nat) * a, a, ?_⟩
    rw [Nat.gcd_rec, e]
    have h : ((n % m : Nat) : Int) = n - m * (n / m : Nat) := by have := Nat.mod_add_div n m; have h2 : ((n % m + m * (n / m) : Nat) : Int) = n := by rw [this]
                                                                 push_cast at h2 ⊢; omega
    rw [h, Int.sub_mul, Int.mul_sub, Int.mul_assoc]
    omega
theorem bez (A x : Int) : ∃ a b : Int, (Int.gcd A x : Int) = A * a + x * b := by
  obtain ⟨a, b, e⟩ := bezN A.natAbs x.natAbs
  have key : ∀ (z c : Int), ∃ d : Int, (z.natAbs : Int) * c = z * d := fun z c => by
    rcases Int.natAbs_eq z with h | h
    · exact ⟨c, by rw [← h]⟩
    · exact ⟨-c, by rw [Int.mul_neg, ← Int.neg_mul]; conv => rhs; rw [h]; rw [Int.neg_neg]⟩
  obtain ⟨a', ha⟩ := key A a
  obtain ⟨b', hb⟩ := key x b
  exact ⟨a', b', by rw [show (Int.gcd A x : Int) = (Nat.gcd A.natAbs x.natAbs : Nat) from rfl, e, ha, hb]⟩
/-- The span of three vectors: a lattice with one vector more. -/
def Sp3 (A : Int) (v w : V2) (u : V2) : Prop := ∃ m n k : Int, u.1 = m * A + n * v.1 + k * w.1 ∧ u.2 = n * v.2 + k * w.2
/-- One step of Euclid's algorithm keeps the span. -/
theorem Sp3.step {A : Int} {v w : V2} (q : Int) (u : V2) : Sp3 A v w u ↔ Sp3 A w (v.1 - q * w.1, v.2 - q * w.2) u := by
  constructor
  · rintro ⟨m, n, k, h1, h2⟩
    refine ⟨m, k + q * n, n, ?_, ?_⟩
    · rw [h1]; simp only [Int.add_mul, Int.mul_sub]; rw [Int.mul_assoc q n, Int.mul_left_comm q n]; omega
    · rw [h2]; simp only [Int.add_mul, Int.mul_sub]; rw [Int.mul_assoc q n, Int.mul_left_comm q n]; omega
  · rintro ⟨m, n, k, h1, h2⟩
    refine ⟨m, k, n - q * k, ?_, ?_⟩
    · rw [h1]; simp only [Int.sub_mul, Int.mul_sub]; rw [Int.mul_assoc q k, Int.mul_left_comm q k]; omega
    · rw [h2]; simp only [Int.sub_mul, Int.mul_sub]; rw [Int.mul_assoc q k, Int.mul_left_comm q k]; omega
/-- At the end: the last vector is horizontal. -/
theorem Sp3.fin {A x : Int} {v : V2} (u : V2) : Sp3 A v (x, 0) u ↔ InL ((Int.gcd A x : Int), v.1, v.2) u := by
  constructor
  · rintro ⟨m, n, k, h1, h2⟩
    obtain ⟨a, ha⟩ := Int.gcd_dvd_left (a := A) (b := x)
    obtain ⟨b, hb⟩ := Int.gcd_dvd_right (a := A) (b := x)
    refine ⟨m * a + k * b, n, ?_, by simpa using h2⟩
    rw [h1]
    simp only
    rw [Int.add_mul, Int.mul_assoc, Int.mul_assoc, Int.mul_comm a, Int.mul_comm b, ← ha, ← hb]
    omega
  · rintro ⟨m, n, h1, h2⟩
    obtain ⟨a, b, e⟩ := bez A x
    refine ⟨m * a, n, m * b, ?_, by simpa using h2⟩
    rw [h1]
    simp only
    rw [e, Int.mul_add, Int.mul_assoc, Int.mul_assoc, Int.mul_comm A, Int.mul_comm x]
    omega
/-- The second vector may be turned round, and moved by the first. -/
theorem InL.neg {A B C : Int} (u : V2) : InL (A, B, C) u ↔ InL (A, -B, -C) u := by
  constructor
  · rintro ⟨m, n, h1, h2⟩
    exact ⟨m, -n, by rw [h1]; simp [Int.neg_mul, Int.mul_neg], by rw [h2]; simp [Int.neg_mul, Int.mul_neg]⟩
  · rintro ⟨m, n, h1, h2⟩
    exact ⟨m, -n, by rw [h1]; simp [Int.neg_mul, Int.mul_neg], by rw [h2]; simp [Int.neg_mul, Int.mul_neg]⟩
theorem InL.mod {A B C : Int} (u : V2) : InL (A, B, C) u ↔ InL (A, B % A, C) u := by
  have e := Int.emod_add_mul_ediv B A
  constructor
  · rintro ⟨m, n, h1, h2⟩
    refine ⟨m + n * (B / A), n, ?_, h2⟩
    rw [h1]; simp only
    rw [Int.add_mul, Int.mul_assoc, Int.mul_comm (B / A), ← Int.emod_add_mul_ediv B A, Int.mul_add]
    simp only [Int.emod_add_mul_ediv]
    omega
  · rintro ⟨m, n, h1, h2⟩
    refine ⟨m - n * (B / A), n, ?_, h2⟩
    rw [h1]; simp only
    have h3 : n * B = n * (B % A) + n * (A * (B / A)) := by rw [← Int.mul_add, e]
    rw [Int.sub_mul, Int.mul_assoc, Int.mul_comm (B / A), h3]
    omega

/-! ### The normal form is there -/
/-- The lattice, by what lies in it. -/
noncomputable def theL (S : V2 → Prop) : L3 := by
  classical exact if h : ∃ l, NF l ∧ ∀ w, InL l w ↔ S w then h.choose else (0, 0, 0)
theorem theL_eq {S : V2 → Prop} {l : L3} (h : NF l) (e : ∀ w, InL l w ↔ S w) : l = theL S := by
  have hx : ∃ l, NF l ∧ ∀ w, InL l w ↔ S w := ⟨l, h, e⟩
  unfold theL
  rw [dif_pos hx]
  exact h.uniq hx.choose_spec.1 fun w => (e w).trans (hx.choose_spec.2 w).symm
noncomputable def latA (l : L3) (v : V2) : L3 := theL (Sp3 l.1 (l.2.1, l.2.2) v)
theorem latA_eq {l l' : L3} {v : V2} (h : NF l') (e : ∀ u, InL l' u ↔ Sp3 l.1 (l.2.1, l.2.2) v u) : l' = latA l v := theL_eq h e
noncomputable def latL (vs : List V2) : L3 := vs.foldl latA (0, 0, 0)
inductive Sp (D : V2 → Prop) : V2 → Prop
  | zero : Sp D (0, 0)
  | add {u d : V2} (k : Int) : Sp D u → D d → Sp D (u.1 + k * d.1, u.2 + k * d.2)
theorem Sp.gen {D : V2 → Prop} {d : V2} (h : D d) : Sp D d := by
  have := Sp.add 1 Sp.zero h
  simpa using this
theorem Sp.sum {D : V2 → Prop} {u v : V2} (hu : Sp D u) (hv : Sp D v) : Sp D (u.1 + v.1, u.2 + v.2) := by
  induction hv with
  | zero => simpa using hu
  | @add w d k _ hd ih =>
    have := Sp.add k ih hd
    simp only [Int.add_assoc] at this
    exact this
theorem Sp.smul {D : V2 → Prop} {u : V2} (k : Int) (hu : Sp D u) : Sp D (k * u.1, k * u.2) := by
  induction hu with
  | zero => simpa using Sp.zero
  | @add w d m _ hd ih =>
    have := Sp.add (k * m) ih hd
    simp only [Int.mul_add, ← Int.mul_assoc]
    exact this
theorem Sp.mono {D E : V2 → Prop} {u : V2} (h : ∀ d, D d → Sp E d) (hu : Sp D u) : Sp E u := by
  induction hu with
  | zero => exact Sp.zero
  | add k _ hd ih => exact Sp.sum ih (Sp.smul k (h _ hd))
/-! ### Potentials -/
def dfR (o : Ori) (p : Int → V2) (x : Int) : V2 := ((p x).1 + 1 - (p (ap o.1 x)).1, (p x).2 - (p (ap o.1 x)).2)
def dfU (o : Ori) (p : Int → V2) (x : Int) : V2 := ((p x).1 - (p (ap o.2 x)).1, (p x).2 + 1 - (p (ap o.2 x)).2)
def Df (o : Ori) (p : Int → V2) : V2 → Prop := fun d => ∃ x, Sq o.1.length x ∧ (d = dfR o p x ∨ d = dfU o p x)
inductive TreeP (o : Ori) (p : Int → V2) : Int → Prop
  | base : TreeP o p 0
  | r {x : Int} : Sq o.1.length x → TreeP o p x → p (ap o.1 x) = ((p x).1 + 1, (p x).2) → TreeP o p (ap o.1 x)
  | u {x : Int} : Sq o.1.length x → TreeP o p x → p (ap o.2 x) = ((p x).1, (p x).2 + 1) → TreeP o p (ap o.2 x)
structure PotT (o : Ori) (p : Int → V2) : Prop where
  zero : p 0 = (0, 0)
  tree : ∀ x, Sq o.1.length x → TreeP o p x
theorem TreeP.diff {o : Ori} {p q : Int → V2} (hp : p 0 = (0, 0)) (hq : q 0 = (0, 0)) {x : Int} (h : TreeP o q x) : Sp (Df o p) ((q x).1 - (p x).1, (q x).2 - (p x).2) := by
  induction h with
  | base => rw [hp, hq]; simpa using Sp.zero
  | @r x hx _ e ih =>
    have := Sp.sum ih (Sp.gen (D := Df o p) ⟨x, hx, .inl rfl⟩)
    rw [e]
    simp only [dfR] at this
    have e1 : (q x).1 - (p x).1 + ((p x).1 + 1 - (p (ap o.1 x)).1) = (q x).1 + 1 - (p (ap o.1 x)).1 := by omega
    have e2 : (q x).2 - (p x).2 + ((p x).2 - (p (ap o.1 x)).2) = (q x).2 - (p (ap o.1 x)).2 := by omega
    rw [e1, e2] at this
    exact this
  | @u x hx _ e ih =>
    have := Sp.sum ih (Sp.gen (D := Df o p) ⟨x, hx, .inr rfl⟩)
    rw [e]
    simp only [dfU] at this
    have e1 : (q x).1 - (p x).1 + ((p x).1 - (p (ap o.2 x)).1) = (q x).1 - (p (ap o.2 x)).1 := by omega
    have e2 : (q x).2 - (p x).2 + ((p x).2 + 1 - (p (ap o.2 x)).2) = (q x).2 + 1 - (p (ap o.2 x)).2 := by omega
    rw [e1, e2] at this
    exact this
theorem Df.sub {o : Ori} (v : Valid o) {p q : Int → V2} (hp : PotT o p) (hq : PotT o q) {d : V2} (h : Df o q d) : Sp (Df o p) d := by
  obtain ⟨x, hx, h⟩ := h
  have h1 := (hq.tree x hx).diff hp.zero hq.zero
  rcases h with rfl | rfl
  · have h2 := ((hq.tree _ (v.pR.aps hx)).diff hp.zero hq.zero).smul (-1)
    have h3 := Sp.sum (Sp.sum h1 h2) (Sp.gen (D := Df o p) ⟨x, hx, .inl rfl⟩)
    simp only [dfR] at h3 ⊢
    rw [show (q x).1 + 1 - (q (ap o.1 x)).1 = (q x).1 - (p x).1 + -1 * ((q (ap o.1 x)).1 - (p (ap o.1 x)).1) + ((p x).1 + 1 - (p (ap o.1 x)).1) by omega,
      show (q x).2 - (q (ap o.1 x)).2 = (q x).2 - (p x).2 + -1 * ((q (ap o.1 x)).2 - (p (ap o.1 x)).2) + ((p x).2 - (p (ap o.1 x)).2) by omega]
    exact h3
  · have h2 := ((hq.tree _ (v.pU.aps hx)).diff hp.zero hq.zero).smul (-1)
    have h3 := Sp.sum (Sp.sum h1 h2) (Sp.gen (D := Df o p) ⟨x, hx, .inr rfl⟩)
    simp only [dfU] at h3 ⊢
    rw [show (q x).1 - (q (ap o.2 x)).1 = (q x).1 - (p x).1 + -1 * ((q (ap o.2 x)).1 - (p (ap o.2 x)).1) + ((p x).1 - (p (ap o.2 x)).1) by omega,
      show (q x).2 + 1 - (q (ap o.2 x)).2 = (q x).2 - (p x).2 + -1 * ((q (ap o.2 x)).2 - (p (ap o.2 x)).2) + ((p x).2 + 1 - (p (ap o.2 x)).2) by omega]
    exact h3
theorem Df.iff {o : Ori} (v : Valid o) {p q : Int → V2} (hp : PotT o p) (hq : PotT o q) (u : V2) : Sp (Df o q) u ↔ Sp (Df o p) u := ⟨Sp.mono fun _ => Df.sub v hp hq, Sp.mono fun _ => Df.sub v hq hp⟩
noncomputable def perL (o : Ori) : L3 := theL fun u => ∃ p, PotT o p ∧ Sp (Df o p) u
theorem perL_eq {o : Ori} (v : Valid o) {p : Int → V2} (hp : PotT o p) {l : L3} (h : NF l) (e : ∀ u, InL l u ↔ Sp (Df o p) u) : l = perL o :=
  theL_eq h fun u => (e u).trans ⟨fun h => ⟨p, hp, h⟩, fun ⟨_, hq, h⟩ => (Df.iff v hp hq u).1 h⟩
end Go.Fl

/- A further vector by Euclid's algorithm; bounds. Plain Lean, no program in sight. -/
namespace Go.Fl
/-- Euclid's algorithm on the second coordinates: (b, c) and (x, y) in place of the second vector of l and v. -/
structure EuS (l : L3) (v : V2) (K N : Nat) (b c x y : Int) : Prop where
  sp : ∀ u, Sp3 l.1 (l.2.1, l.2.2) v u ↔ Sp3 l.1 (b, c) (x, y) u
  phi : b.natAbs * y.natAbs + x.natAbs * c.natAbs ≤ K
  bK : b.natAbs ≤ K
  xK : x.natAbs ≤ K
  cN : c.natAbs ≤ N
  yN : y.natAbs ≤ N
  z : c = 0 → b = 0
section
variable {l : L3} {v : V2} {K N : Nat} {b c x y : Int}
/-- What is made of it at the end. -/
def fin3 (a b c : Int) : L3 := (a, if 0 < a then (if c < 0 then -b else b) % a else (if c < 0 then -b else b), if c < 0 then -c else c)
theorem fin3_nf {a b c : Int} (ha : 0 ≤ a) (hz : c = 0 → b = 0) : NF (fin3 a b c) := by
  refine ⟨ha, ?_, fun hp => ?_, fun e => ?_⟩
  · show 0 ≤ (if c < 0 then -c else c)
    split <;> omega
  · have hp' : 0 < a := hp
    show 0 ≤ (if 0 < a then _ else _) ∧ (if 0 < a then _ else _) < a
    rw [if_pos hp']
    exact ⟨Int.emod_nonneg _ (by omega), Int.emod_lt_of_pos _ hp'⟩
  · have hc : c = 0 := by
      have e' : (if c < 0 then -c else c) = 0 := e
      split at e' <;> omega
    have hb := hz hc
    show (if 0 < a then (if c < 0 then -b else b) % a else (if c < 0 then -b else b)) = 0
    rw [hb, hc]; simp
theorem fin3_in {a b c : Int} (u : V2) : InL (fin3 a b c) u ↔ InL (a, b, c) u := by
  have h1 : InL (a, (if c < 0 then -b else b), (if c < 0 then -c else c)) u ↔ InL (a, b, c) u := by
    by_cases hc : c < 0
    · rw [if_pos hc, if_pos hc]; exact (InL.neg u).symm
    · rw [if_neg hc, if_neg hc]
  refine Iff.trans ?_ h1
  unfold fin3
  by_cases ha : 0 < a
  · rw [if_pos ha]; exact (InL.mod u).symm
  · rw [if_neg ha]
theorem EuS.done (h : EuS l v K N b c x 0) : latA l v = fin3 (Int.gcd l.1 x : Int) b c :=
  (latA_eq (fin3_nf (Int.natCast_nonneg _) h.z) fun u => (fin3_in u).trans ((h.sp u).trans (Sp3.fin u)).symm).symm
end
/-! ### The reference's quotients are rounded down -/
def flk (c y : Int) : Int := if y < 0 then -(c / (if y < 0 then -y else y)) else c / (if y < 0 then -y else y)
/-- Where the reference may be within its loop. -/
def RfS (l : L3) (v : V2) (K N : Nat) (b c x y : Int) : Prop := (0 ≤ c ∧ y < 0 ∧ EuS l v K N b c x y) ∨ (0 ≤ c ∧ 0 ≤ y ∧ EuS l v (3 * K) N b c x y) ∨ (c < 0 ∧ 0 ≤ y ∧ y < -c ∧ EuS l v K N b c x y)
end Go.Fl

/- Contracts: the lattice of the periods. -/
namespace Go.Fl
open Go Go.Proofs


end Go.Fl

/- Contracts: the lattice of the periods, in the reference. -/
namespace Go.Fl
open Go Go.Proofs

def eLat : Enc L3 := eC (fun v : L3 => (v.1, v.2.1, v.2.2, ())) (eP eI (eP eI (eP eI eU)))
instance {v : L3} : CellsK (kRd eLat v) [kI (v.1), kI (v.2.1), kI (v.2.2)] := inferInstanceAs (CellsK (kRd (eC (fun v : L3 => (v.1, v.2.1, v.2.2, ())) (eP eI (eP eI (eP eI eU)))) v) _)
instance {v : L3} {tl : List Know} : EncCells eLat v tl (kI (v.1) :: kI (v.2.1) :: kI (v.2.2) :: tl) := inferInstanceAs (EncCells (eC (fun v : L3 => (v.1, v.2.1, v.2.2, ())) (eP eI (eP eI (eP eI eU)))) v tl _)
instance {v : L3} : Norm eLat v (kRd eLat v) := ⟨fun h => h⟩
instance {v : L3} : FieldP eLat v 0 eI (v.1) 0 := inferInstanceAs (FieldP (eC (fun v : L3 => (v.1, v.2.1, v.2.2, ())) (eP eI (eP eI (eP eI eU)))) v 0 _ _ _)
instance {v : L3} : FieldP eLat v 1 eI (v.2.1) 1 := inferInstanceAs (FieldP (eC (fun v : L3 => (v.1, v.2.1, v.2.2, ())) (eP eI (eP eI (eP eI eU)))) v 1 _ _ _)
instance {v : L3} : FieldP eLat v 2 eI (v.2.2) 2 := inferInstanceAs (FieldP (eC (fun v : L3 => (v.1, v.2.1, v.2.2, ())) (eP eI (eP eI (eP eI eU)))) v 2 _ _ _)
instance {ks r : List Know} {a b c : Int} [h : RdOf ks (eP eI (eP eI (eP eI eU))) (a, b, c, ()) r] : RdOf ks eLat ((a, b, c)) r := ⟨fun h' => h.imp h'⟩
end Go.Fl

/- Bounds of lattices; potentials along a search. Plain Lean, no program in sight. -/
namespace Go.Fl
structure Bd (N : Nat) (l : L3) : Prop where
  c : l.2.2.natAbs ≤ N
  a : l.1.natAbs ≤ 2 * N * N
  b : l.1 = 0 → l.2.1.natAbs ≤ N
theorem Bd.zero {N : Nat} : Bd N (0, 0, 0) := ⟨by simp, by simp, by simp⟩
theorem Bd.bb {N : Nat} {l : L3} (nf : NF l) (h : Bd N l) : l.2.1.natAbs ≤ 2 * N * N + N := by
  by_cases h0 : l.1 = 0
  · have := h.b h0; omega
  · have := nf.b (by have := nf.a; omega)
    have := h.a
    omega
end Go.Fl

/- Potentials along a search. Plain Lean, no program in sight. -/
namespace Go.Fl
/-- A square that is reached by steps within K, along which the potential grows. -/
inductive TreeIn (o : Ori) (p : Int → V2) (K : Int → Prop) : Int → Prop
  | base : K 0 → TreeIn o p K 0
  | r {x : Int} : Sq o.1.length x → TreeIn o p K x → K (ap o.1 x) → p (ap o.1 x) = ((p x).1 + 1, (p x).2) → TreeIn o p K (ap o.1 x)
  | u {x : Int} : Sq o.1.length x → TreeIn o p K x → K (ap o.2 x) → p (ap o.2 x) = ((p x).1, (p x).2 + 1) → TreeIn o p K (ap o.2 x)
theorem TreeIn.inn {o : Ori} {p : Int → V2} {K : Int → Prop} {x : Int} (h : TreeIn o p K x) : K x := by cases h <;> assumption
theorem TreeIn.mono {o : Ori} {p p' : Int → V2} {K K' : Int → Prop} (hK : ∀ x, K x → K' x) (hp : ∀ x, K x → p' x = p x) {x : Int} (h : TreeIn o p K x) : TreeIn o p' K' x := by
  induction h with
  | base h => exact .base (hK _ h)
  | r hx h hk e ih => exact .r hx ih (hK _ hk) (by rw [hp _ hk, hp _ h.inn]; exact e)
  | u hx h hk e ih => exact .u hx ih (hK _ hk) (by rw [hp _ hk, hp _ h.inn]; exact e)
theorem TreeIn.tree {o : Ori} {p : Int → V2} {K : Int → Prop} {x : Int} (h : TreeIn o p K x) : TreeP o p x := by
  induction h with
  | base => exact .base
  | r hx _ _ e ih => exact .r hx ih e
  | u hx _ _ e ih => exact .u hx ih e
/-- What is known of the potentials p of the squares K; m: how many these are. -/
structure PS (o : Ori) (K : Int → Prop) (p : Int → V2) (m : Nat) : Prop where
  k0 : K 0
  p0 : p 0 = (0, 0)
  t : ∀ x, K x → TreeIn o p K x
  b : ∀ x, K x → 0 ≤ (p x).1 ∧ 0 ≤ (p x).2 ∧ (p x).1 + (p x).2 < m
theorem PS.congr {o : Ori} {K K' : Int → Prop} {p p' : Int → V2} {m : Nat} (h : PS o K p m) (hK : ∀ x, K x ↔ K' x) (hp : ∀ x, K x → p' x = p x) : PS o K' p' m :=
  ⟨(hK _).1 h.k0, by rw [hp _ h.k0]; exact h.p0, fun x hx => (h.t x ((hK x).2 hx)).mono (fun y hy => (hK y).1 hy) hp, fun x hx => by rw [hp _ ((hK x).2 hx)]; exact h.b x ((hK x).2 hx)⟩
def updP (p : Int → V2) (y : Int) (w : V2) : Int → V2 := fun z => if z = y then w else p z
theorem updP_same {p : Int → V2} {y : Int} {w : V2} : updP p y w y = w := if_pos rfl
theorem updP_ne {p : Int → V2} {y z : Int} {w : V2} (h : z ≠ y) : updP p y w z = p z := if_neg h
theorem PS.grow {o : Ori} {K : Int → Prop} {p : Int → V2} {m : Nat} (h : PS o K p m) {x y : Int} (hx : Sq o.1.length x) (hk : K x) (hy : ¬ K y) {w : V2} (hw : (y = ap o.1 x ∧ w = ((p x).1 + 1, (p x).2)) ∨ (y = ap o.2 x ∧ w = ((p x).1, (p x).2 + 1))) :
    PS o (fun z => K z ∨ z = y) (updP p y w) (m + 1) := by
  have hne : ∀ z, K z → z ≠ y := fun z hz e => hy (e ▸ hz)
  have hold : ∀ z, K z → updP p y w z = p z := fun z hz => updP_ne (hne z hz)
  have hb := h.b x hk
  refine ⟨.inl h.k0, by rw [hold _ h.k0]; exact h.p0, fun z hz => ?_, fun z hz => ?_⟩
  · rcases hz with hz | rfl
    · exact (h.t z hz).mono (fun _ h => .inl h) hold
    · have ht := (h.t x hk).mono (K' := fun z' => K z' ∨ z' = z) (p' := updP p z w) (fun _ h => .inl h) hold
      rcases hw with ⟨rfl, rfl⟩ | ⟨rfl, rfl⟩
      · exact .r hx ht (.inr rfl) (by rw [updP_same, hold x hk])
      · exact .u hx ht (.inr rfl) (by rw [updP_same, hold x hk])
  · rcases hz with hz | rfl
    · rw [hold _ hz]
      have := h.b z hz
      omega
    · rw [updP_same]
      rcases hw with ⟨_, rfl⟩ | ⟨_, rfl⟩ <;> exact ⟨by simp only; omega, by simp only; omega, by simp only; omega⟩
theorem PS.pot {o : Ori} {K : Int → Prop} {p : Int → V2} {m : Nat} (h : PS o K p m) (hall : ∀ x, Sq o.1.length x → K x) : PotT o p := ⟨h.p0, fun x hx => (h.t x (hall x hx)).tree⟩
/-! ### The reference's search -/
def pOf (px py : List Int) : Int → V2 := fun x => (nth px x.toNat, nth py x.toNat)
def knP (n : Nat) (kn : List Bool) : Int → Prop := fun x => Sq n x ∧ nth kn x.toNat = true
structure RS (o : Ori) (px py : List Int) (kn : List Bool) : Prop where
  lx : px.length = o.1.length
  ly : py.length = o.1.length
  lk : kn.length = o.1.length
  ps : PS o (knP o.1.length kn) (pOf px py) (kn.count true)
theorem nth_setB {kn : List Bool} {i j : Nat} (hi : i < kn.length) : nth (kn.set i true) j = if j = i then true else nth kn j := by
  unfold nth
  simp only [List.getD_eq_getElem?_getD, List.getElem?_set]
  by_cases e : i = j
  · subst e; simp [hi]
  · rw [if_neg e, if_neg (fun h => e h.symm)]
theorem nth_setI {xs : List Int} {i j : Nat} {v : Int} (hi : i < xs.length) : nth (xs.set i v) j = if j = i then v else nth xs j := by
  unfold nth
  simp only [List.getD_eq_getElem?_getD, List.getElem?_set]
  by_cases e : i = j
  · subst e; simp [hi]
  · rw [if_neg e, if_neg (fun h => e h.symm)]
theorem count_setB {kn : List Bool} {i : Nat} (hi : i < kn.length) (h : nth kn i = false) : (kn.set i true).count true = kn.count true + 1 := by
  rw [List.count_set hi]
  have e : kn[i] = false := by rw [← h]; unfold nth; simp [List.getD_eq_getElem?_getD, hi]
  rw [e]; simp
theorem RS.grow {o : Ori} {px py : List Int} {kn : List Bool} (h : RS o px py kn) {x y a b : Int} (hx : Sq o.1.length x) (hy : Sq o.1.length y) (hk : nth kn x.toNat = true) (hn : nth kn y.toNat = false)
    (hw : (y = ap o.1 x ∧ a = nth px x.toNat + 1 ∧ b = nth py x.toNat) ∨ (y = ap o.2 x ∧ a = nth px x.toNat ∧ b = nth py x.toNat + 1)) : RS o (px.set y.toNat a) (py.set y.toNat b) (kn.set y.toNat true) := by
  have hyl : y.toNat < o.1.length := by have := hy.1; have := hy.2; omega
  refine ⟨by rw [List.length_set]; exact h.lx, by rw [List.length_set]; exact h.ly, by rw [List.length_set]; exact h.lk, ?_⟩
  rw [count_setB (by rw [h.lk]; exact hyl) hn]
  have hg := h.ps.grow (y := y) (w := (a, b)) hx ⟨hx, hk⟩ (fun hh => by rw [hh.2] at hn; cases hn) (by
    rcases hw with ⟨h1, h2, h3⟩ | ⟨h1, h2, h3⟩
    · exact .inl ⟨h1, by rw [h2, h3]; rfl⟩
    · exact .inr ⟨h1, by rw [h2, h3]; rfl⟩)
  refine hg.congr (fun z => ?_) (fun z hz => ?_)
  · unfold knP
    rw [nth_setB (by rw [h.lk]; exact hyl)]
    constructor
    · rintro (⟨h1, h2⟩ | rfl)
      · exact ⟨h1, by rw [h2]; simp⟩
      · exact ⟨hy, by simp⟩
    · rintro ⟨h1, h2⟩
      by_cases e : z = y
      · exact .inr e
      · rw [if_neg (by have := h1.1; have := hy.1; omega)] at h2
        exact .inl ⟨h1, h2⟩
  · have hzs : Sq o.1.length z := by
      rcases hz with hz | rfl
      · exact hz.1
      · exact hy
    unfold pOf updP
    rw [nth_setI (by rw [h.lx]; exact hyl), nth_setI (by rw [h.ly]; exact hyl)]
    by_cases e : z = y
    · rw [if_pos e, if_pos (by rw [e]), if_pos (by rw [e])]
    · have e2 : z.toNat ≠ y.toNat := by have := hzs.1; have := hy.1; omega
      rw [if_neg e, if_neg e2, if_neg e2]
end Go.Fl

/- The reference's rounds; the vectors of a potential. Plain Lean, no program in sight. -/
namespace Go.Fl
def Cl (o : Ori) (kn : List Bool) (i : Nat) : Prop := nth kn i = true → nth kn (nth o.1 i).toNat = true ∧ nth kn (nth o.2 i).toNat = true
/-- Within a round, before square s; c: how many were known at its beginning. -/
def Mv (o : Ori) (c s : Nat) (px py : List Int) (kn : List Bool) : Prop := RS o px py kn ∧ (c < kn.count true ∨ (kn.count true = c ∧ ∀ i, i < s → Cl o kn i))
/-- Halfway through a square. -/
def Mh (o : Ori) (c s : Nat) (px py : List Int) (kn : List Bool) : Prop := RS o px py kn ∧ (c < kn.count true ∨ (kn.count true = c ∧ (∀ i, i < s → Cl o kn i) ∧ (nth kn s = true → nth kn (nth o.1 s).toNat = true)))
section
variable {o : Ori} {c s : Nat} {px py : List Int} {kn : List Bool}
theorem Mv.zero (h : RS o px py kn) : Mv o (kn.count true) 0 px py kn := ⟨h, .inr ⟨rfl, fun _ h => absurd h (by omega)⟩⟩
theorem Mv.new (v : Valid o) (h : Mv o c s px py kn) (hs : s < o.1.length) (h1 : nth kn s = true) (h2 : nth kn (nth o.1 s).toNat = false) :
    Mh o c s (px.set (nth o.1 s).toNat (nth px s + 1)) (py.set (nth o.1 s).toNat (nth py s)) (kn.set (nth o.1 s).toNat true) := by
  have hy : Sq o.1.length (nth o.1 s) := v.ri hs
  refine ⟨h.1.grow (x := (s : Int)) (Sq.nat hs) hy (by simpa using h1) h2 (.inl ⟨rfl, by simp, by simp⟩), .inl ?_⟩
  rw [count_setB (by rw [h.1.lk]; have := hy.1; have := hy.2; omega) h2]
  rcases h.2 with h | ⟨h, _⟩ <;> omega
theorem Mh.new (v : Valid o) (h : Mh o c s px py kn) (hs : s < o.1.length) (h1 : nth kn s = true) (h2 : nth kn (nth o.2 s).toNat = false) :
    Mv o c (s + 1) (px.set (nth o.2 s).toNat (nth px s)) (py.set (nth o.2 s).toNat (nth py s + 1)) (kn.set (nth o.2 s).toNat true) := by
  have hy : Sq o.1.length (nth o.2 s) := v.ui hs
  refine ⟨h.1.grow (x := (s : Int)) (Sq.nat hs) hy (by simpa using h1) h2 (.inr ⟨rfl, by simp, by simp⟩), .inl ?_⟩
  rw [count_setB (by rw [h.1.lk]; have := hy.1; have := hy.2; omega) h2]
  rcases h.2 with h | ⟨h, _⟩ <;> omega
theorem RS.all (h : RS o px py kn) (hc : o.1.length ≤ kn.count true) : ∀ i, i < o.1.length → nth kn i = true := fun i hi => by
  have hl := List.count_le_length (a := true) (l := kn)
  rw [h.lk] at hl
  have := List.count_eq_length.1 (show kn.count true = kn.length by rw [h.lk]; omega) _ (nth_mem (xs := kn) (i := i) (by rw [h.lk]; exact hi))
  exact this.symm
/-- A round that changes nothing has come to its end. -/
theorem Mv.all (v : Valid o) (cn : Conn o) (h : Mv o c o.1.length px py kn) : c + 1 ≤ kn.count true ∨ o.1.length ≤ kn.count true := by
  rcases h.2 with h2 | ⟨_, h2⟩
  · exact .inl h2
  · refine .inr ?_
    have h0 := h.1.ps.k0
    have hF : Fwd o (fun x => nth kn x.toNat = true) := fun x hx hk => h2 x.toNat (by have := hx.1; have := hx.2; omega) hk
    have hall : ∀ x, Sq o.1.length x → nth kn x.toNat = true := fun x hx => reach_min v h0.1 hF h0.2 x (cn.all v h0.1 hx)
    have : kn.count true = kn.length := List.count_eq_length.2 fun b hb => by
      obtain ⟨i, hi, rfl⟩ := List.getElem_of_mem hb
      have := hall (i : Int) (Sq.nat (by rw [← h.1.lk]; exact hi))
      unfold nth at this
      simpa [List.getD_eq_getElem?_getD, hi] using this.symm
    rw [this, h.1.lk]; exact Nat.le_refl _
theorem RS.pot (h : RS o px py kn) (hc : o.1.length ≤ kn.count true) : PotT o (pOf px py) :=
  h.ps.pot fun x hx => ⟨hx, h.all hc _ (by have := hx.1; have := hx.2; omega)⟩
end
/-- The vectors of the first k squares. -/
def vecs (o : Ori) (p : Int → V2) (k : Nat) : List V2 := (List.range k).flatMap fun i : Nat => [dfR o p i, dfU o p i]
section
variable {o : Ori} {px py : List Int} {kn : List Bool}
end
end Go.Fl

/- Contracts: the periods, in the reference. -/
namespace Go.Fl
open Go Go.Proofs

end Go.Fl

/- Contracts: genus. -/
namespace Go.Fl
open Go Go.Proofs

def genF (o : Ori) : Int := ((o.1.length : Int) - ((vtx o).length : Int)).tdiv 2 + 1
end Go.Fl

/- The program's search of periods: potentials along a list, a lattice of what has been looked at. Plain Lean, no program in sight. -/
namespace Go.Fl
def pAt (at' : List (Int × Int × Unit)) : Int → V2 := fun x => ((nth at' x.toNat).1, (nth at' x.toNat).2.1)
def edg (o : Ori) (x : Int) (e : Nat) : Int := if e = 0 then ap o.1 x else ap o.2 x
/-- One step further along an edge. -/
def uni (w : V2) (e : Nat) : V2 := if e = 0 then (w.1 + 1, w.2) else (w.1, w.2 + 1)
def dfE (o : Ori) (p : Int → V2) (x : Int) (e : Nat) : V2 := ((uni (p x) e).1 - (p (edg o x e)).1, (uni (p x) e).2 - (p (edg o x e)).2)
def Lkd (k j i e : Nat) : Prop := e < 2 ∧ (i < k ∨ (i = k ∧ e < j))
def DE (o : Ori) (p : Int → V2) (L : List Int) (k j : Nat) : V2 → Prop := fun d => ∃ i e, Lkd k j i e ∧ i < L.length ∧ d = dfE o p (nth L i) e
structure PB (o : Ori) (k j : Nat) (at' : List (Int × Int × Unit)) (l : L3) (L : List Int) : Prop where
  len : at'.length = o.1.length
  gd : Good o.1.length L
  ps : PS o (· ∈ L) (pAt at') L.length
  nf : NF l
  bd : Bd 130 l
  cl : ∀ i e, Lkd k j i e → i < L.length → edg o (nth L i) e ∈ L
  sp : ∀ u, InL l u ↔ Sp (DE o (pAt at') L k j) u
section
variable {o : Ori} {k j : Nat} {at' : List (Int × Int × Unit)} {l : L3} {L : List Int}
theorem Lkd.succ {k j i e : Nat} (hj : j < 2) : Lkd k (j + 1) i e ↔ Lkd k j i e ∨ (i = k ∧ e = j) := by
  unfold Lkd; omega
theorem Sp.zero_iff {D E : V2 → Prop} (h1 : ∀ d, D d → E d) (h2 : ∀ d, E d → D d ∨ d = (0, 0)) {u : V2} : Sp D u ↔ Sp E u := by
  refine ⟨Sp.mono fun d hd => Sp.gen (h1 d hd), Sp.mono fun d hd => ?_⟩
  rcases h2 d hd with h | rfl
  · exact Sp.gen h
  · exact Sp.zero
theorem nth_setV {xs : List (Int × Int × Unit)} {i j : Nat} {w : Int × Int × Unit} (hi : i < xs.length) : nth (xs.set i w) j = if j = i then w else nth xs j := by
  unfold nth
  simp only [List.getD_eq_getElem?_getD, List.getElem?_set]
  by_cases e : i = j
  · subst e; simp [hi]
  · rw [if_neg e, if_neg (fun h => e h.symm)]
/-- An edge to a square that is new. -/
theorem PB.new (h : PB o k j at' l L) (hk : k < L.length) (hj : j < 2) (hys : Sq o.1.length (edg o (nth L k) j)) (hy : edg o (nth L k) j ∉ L) {a b : Int} (hw : (a, b) = uni (pAt at' (nth L k)) j) :
    PB o k (j + 1) (at'.set (edg o (nth L k) j).toNat (a, b, ())) l (L ++ [edg o (nth L k) j]) := by
  have hxs : Sq o.1.length (nth L k) := h.gd.rng _ (nth_mem hk)
  have hyl : (edg o (nth L k) j).toNat < at'.length := by rw [h.len]; have := hys.1; have := hys.2; omega
  have hup : ∀ z, Sq o.1.length z → pAt (at'.set (edg o (nth L k) j).toNat (a, b, ())) z = updP (pAt at') (edg o (nth L k) j) (a, b) z := fun z hz => by
    unfold pAt updP
    rw [nth_setV hyl]
    by_cases e : z = edg o (nth L k) j
    · rw [if_pos e, if_pos (by rw [e])]
    · rw [if_neg e, if_neg (by have := hz.1; have := hys.1; omega)]
  have hold : ∀ z, z ∈ L → pAt (at'.set (edg o (nth L k) j).toNat (a, b, ())) z = pAt at' z := fun z hz => by
    rw [hup z (h.gd.rng z hz)]; exact updP_ne (fun e => hy (by rw [← e]; exact hz))
  have hg := h.ps.grow (y := edg o (nth L k) j) (w := (a, b)) hxs (nth_mem hk) hy (by
    rw [hw]; unfold edg uni
    by_cases e : j = 0
    · exact .inl ⟨if_pos e, if_pos e⟩
    · exact .inr ⟨if_neg e, if_neg e⟩)
  have hnl : ∀ i e, Lkd k (j + 1) i e → i < (L ++ [edg o (nth L k) j]).length → i < L.length := fun i e hi hl => by
    unfold Lkd at hi; omega
  have hcl : ∀ i e, Lkd k (j + 1) i e → i < L.length → edg o (nth L i) e ∈ L ∨ edg o (nth L i) e = edg o (nth L k) j := fun i e hi hl => by
    rcases (Lkd.succ hj).1 hi with hi | ⟨rfl, rfl⟩
    · exact .inl (h.cl i e hi hl)
    · exact .inr rfl
  refine ⟨by rw [List.length_set]; exact h.len, h.gd.snoc hys.1 hys.2 hy, ?_, h.nf, h.bd, fun i e hi hl => ?_, fun u => (h.sp u).trans (Sp.zero_iff ?_ ?_)⟩
  · rw [List.length_append, List.length_singleton]
    refine hg.congr (fun x => by simp) (fun x hx => (hup x ?_).trans ?_)
    · rcases hx with hx | rfl
      · exact h.gd.rng x hx
      · exact hys
    · rfl
  · have hl' := hnl i e hi hl
    rw [nth_app_l hl']
    rcases hcl i e hi hl' with h1 | h1
    · exact List.mem_append_left _ h1
    · rw [h1]; exact List.mem_append_right _ List.mem_cons_self
  · rintro d ⟨i, e, h3, h4, h5⟩
    refine ⟨i, e, (Lkd.succ hj).2 (.inl h3), by rw [List.length_append]; omega, ?_⟩
    rw [nth_app_l h4, h5]
    unfold dfE
    rw [hold _ (nth_mem h4), hold _ (h.cl i e h3 h4)]
  · rintro d ⟨i, e, h3, h4, h5⟩
    have h4' := hnl i e h3 h4
    rw [nth_app_l h4'] at h5
    rcases (Lkd.succ hj).1 h3 with h6 | ⟨rfl, rfl⟩
    · refine .inl ⟨i, e, h6, h4', ?_⟩
      rw [h5]; unfold dfE
      rw [hold _ (nth_mem h4'), hold _ (h.cl i e h6 h4')]
    · refine .inr ?_
      rw [h5]; unfold dfE
      rw [hold _ (nth_mem h4'), hup _ hys, updP_same, ← hw]
      simp
theorem PB.fin (v : Valid o) (cn : Conn o) (h : PB o k 0 at' l L) (hL : L = bfs o [] 0) (hk : L.length ≤ k) : l = perL o := by
  have hn := v.pos
  have hall : ∀ x, Sq o.1.length x → x ∈ L := fun x hx => by rw [hL]; exact cn.all v ⟨Int.le_refl _, by omega⟩ hx
  refine perL_eq v (h.ps.pot hall) h.nf fun u => (h.sp u).trans ?_
  constructor
  · refine Sp.mono fun d ⟨i, e, h3, h4, h5⟩ => Sp.gen ⟨nth L i, h.gd.rng _ (nth_mem h4), ?_⟩
    subst h5
    rcases e with _ | _ | e
    · exact .inl rfl
    · exact .inr rfl
    · exact absurd h3.1 (by omega)
  · refine Sp.mono fun d ⟨x, hx, hd⟩ => Sp.gen ?_
    obtain ⟨i, hi, rfl⟩ := mem_nth (hall x hx)
    rcases hd with rfl | rfl
    · exact ⟨i, 0, ⟨by omega, .inl (by omega)⟩, hi, rfl⟩
    · exact ⟨i, 1, ⟨by omega, .inl (by omega)⟩, hi, rfl⟩
end
end Go.Fl

/- Automorphisms, and the quotient by them. Plain Lean, no program in sight. -/
namespace Go.Fl
theorem ap_thn {f g : List Int} {n : Nat} (hl : f.length = n) {x : Int} (hx : Sq n x) : ap (thenL f g) x = ap g (ap f x) := by
  have := hx.1; have := hx.2
  unfold ap thenL
  rw [nth_tab (by omega)]
theorem inR_of_ap {f : List Int} {n m : Nat} (hl : f.length = n) (h : ∀ x, Sq n x → Sq m (ap f x)) : inR f m := fun i hi => by
  have := h (i : Int) (Sq.nat (by rw [← hl]; exact hi))
  simpa [ap, Sq] using this
theorem hom_comp {a b c : Ori} (va : Valid a) {f g : List Int} (hf : IsHom a b f) (hg : IsHom b c g) : IsHom a c (thenL f g) := by
  have e := fun {x} (hx : Sq a.1.length x) => ap_thn (g := g) hf.len hx
  refine ⟨by rw [thenL_len]; exact hf.len, inR_of_ap (n := a.1.length) (by rw [thenL_len]; exact hf.len) fun x hx => by rw [e hx]; exact hg.sq (hf.sq hx), fun x hx => ?_, fun x hx => ?_⟩
  · rw [e (va.pR.aps hx), e hx, hf.R x hx, hg.R _ (hf.sq hx)]
  · rw [e (va.pU.aps hx), e hx, hf.U x hx, hg.U _ (hf.sq hx)]
section
variable {o : Ori}
/-- A map between origamis meets every square, if the other one is connected. -/
theorem hom_onto {a b : Ori} (va : Valid a) (vb : Valid b) (cb : Conn b) {f : List Int} (h : IsHom a b f) {y : Int} (hy : Sq b.1.length y) : ∃ x, Sq a.1.length x ∧ ap f x = y := by
  have hp := va.pos
  have h0 : Sq a.1.length 0 := ⟨by omega, by omega⟩
  have hs := h.sq h0
  refine reach_min (G := fun y => ∃ x, Sq a.1.length x ∧ ap f x = y) vb hs (fun z _ hz => ?_) ⟨0, h0, rfl⟩ y (cb.all vb hs hy)
  obtain ⟨x, hx, rfl⟩ := hz
  exact ⟨⟨_, va.pR.aps hx, h.R x hx⟩, ⟨_, va.pU.aps hx, h.U x hx⟩⟩
/-- A list of n numbers below n that meets all of them. -/
theorem onto_sec {f : List Int} {n : Nat} (hl : f.length = n) (h : ∀ y, Sq n y → ∃ x, Sq n x ∧ ap f x = y) : ∃ g, Perm g n ∧ (∀ y, Sq n y → ap f (ap g y) = y) ∧ ∀ x, Sq n x → ap g (ap f x) = x := by
  have hmem : ∀ y, Sq n y → y ∈ f := fun y hy => by
    obtain ⟨x, hx, rfl⟩ := h y hy
    exact nth_mem (by have := hx.1; have := hx.2; omega)
  have hg : ∀ y, Sq n y → ap (tab n fun i : Nat => atL f i) y = atL f y := fun y hy => by
    have := hy.1; have := hy.2
    unfold ap
    rw [nth_tab (by omega), show ((y.toNat : Nat) : Int) = y by omega]
  have hfg : ∀ y, Sq n y → ap f (ap (tab n fun i : Nat => atL f i) y) = y := fun y hy => by rw [hg y hy]; exact nth_atL (hmem y hy)
  have hrg : ∀ y, Sq n y → Sq n (ap (tab n fun i : Nat => atL f i) y) := fun y hy => by
    rw [hg y hy]; have := atL_rng (hmem y hy); rw [hl] at this; exact this
  have P : Perm (tab n fun i : Nat => atL f i) n := by
    refine ⟨nodup_of_nth fun i j hi hj e => ?_, inR_of_ap tab_len hrg, tab_len⟩
    rw [tab_len] at hi hj
    have e1 := hfg i (Sq.nat hi)
    have e2 := hfg j (Sq.nat hj)
    unfold ap at e1 e2
    simp only [Int.toNat_natCast] at e1 e2
    rw [e] at e1
    omega
  refine ⟨_, P, hfg, fun x hx => ?_⟩
  obtain ⟨y, hy, rfl⟩ := P.onto hx
  rw [hfg y hy]
/-- An automorphism has an inverse. -/
theorem aut_inv (v : Valid o) (c : Conn o) {f : List Int} (h : IsHom o o f) : ∃ g, IsHom o o g ∧ ∀ x, Sq o.1.length x → ap g (ap f x) = x := by
  obtain ⟨g, P, h1, h2⟩ := onto_sec h.len fun y hy => hom_onto v v c h hy
  refine ⟨g, ⟨P.ln, P.rg, fun x hx => ?_, fun x hx => ?_⟩, h2⟩
  · have e := h.R _ (P.aps hx)
    rw [h1 x hx] at e
    rw [← e, h2 _ (v.pR.aps (P.aps hx))]
  · have e := h.U _ (P.aps hx)
    rw [h1 x hx] at e
    rw [← e, h2 _ (v.pU.aps (P.aps hx))]
def Rel (o : Ori) (x y : Int) : Prop := ∃ f, IsHom o o f ∧ ap f x = y
theorem Rel.symm (v : Valid o) (c : Conn o) {x y : Int} (hx : Sq o.1.length x) (h : Rel o x y) : Rel o y x := by
  obtain ⟨f, hf, rfl⟩ := h
  obtain ⟨g, hg, e⟩ := aut_inv v c hf
  exact ⟨g, hg, e x hx⟩
theorem Rel.trans (v : Valid o) {x y z : Int} (hx : Sq o.1.length x) (h : Rel o x y) (k : Rel o y z) : Rel o x z := by
  obtain ⟨f, hf, rfl⟩ := h
  obtain ⟨g, hg, rfl⟩ := k
  exact ⟨_, hom_comp v hf hg, ap_thn hf.len hx⟩
/-! ### The least of a class -/
def mnL (A : List (List Int)) (x : Int) : Nat → Int
  | 0 => x
  | i + 1 => min (mnL A x i) (ap (nth A i) x)
noncomputable def mnO (o : Ori) (x : Int) : Int := mnL (mapsL o o) x (mapsL o o).length
/-! ### The classes -/
noncomputable def frs (o : Ori) : Nat → List Int
  | 0 => []
  | k + 1 => if mnO o k = k then frs o k ++ [(k : Int)] else frs o k
noncomputable def clsTo (o : Ori) (k : Nat) : List Int := tab o.1.length fun y : Nat => atL (frs o k) (mnO o y)
noncomputable def clsIn (o : Ori) (k i : Nat) : List Int := tab o.1.length fun y : Nat => if (y : Int) ∈ ((mapsL o o).take i).map (ap · k) then ((frs o k).length : Int) else atL (frs o k) (mnO o y)
noncomputable def cls (o : Ori) : List Int := clsTo o o.1.length
noncomputable def quoF (o : Ori) (p : List Int) (i : Nat) : Int := ap (cls o) (ap p (nth (frs o o.1.length) i))
noncomputable def quoO (o : Ori) : Ori := (tab (frs o o.1.length).length (quoF o o.1), tab (frs o o.1.length).length (quoF o o.2))
/-! ### The number of automorphisms divides that of the squares -/
end
end Go.Fl

/- Elements of an array of the call's own at a place that is not written out; parts of the elements of a row of the call's own. No program in sight. -/
namespace Go.Fl
open Go Go.RowKit
/-- A pointer to cell o of element i (of n cells) of one of the call's own rows, which has len elements. -/
def kElO (t n i len o : Nat) : Know := fun g v => i < len ∧ ∃ b cap, g.M t = some (.blk b cap) ∧ v = .pointer (some ⟨b, i * n + o, none⟩)
instance (t n i l o : Nat) : KDep (kElO t n i l o) [t] := ⟨fun _ hd ⟨h0, b, cap, h1, h2⟩ => ⟨h0, b, cap, (hd t (by simp)).trans h1, h2⟩⟩
instance {t n i l o : Nat} : OneC (kElO t n i l o) := ⟨fun ⟨_, _, _, _, h⟩ => by subst h; rfl⟩
instance (t n i l o : Nat) : KHas (kElO t n i l o) t := ⟨fun ⟨_, b, cap, h1, _⟩ => by rw [h1]; simp⟩
instance : ZeroE (eP eI (eP eI eU)) (.agg #[.int .i64 0, .int .i64 0]) (0, 0, ()) := ⟨fun _ => ⟨[.int .i64 0], [.int .i64 0], rfl, rfl, [.int .i64 0], [], rfl, rfl, rfl⟩⟩
/-- Cell o of what is encoded is the number f. -/
def CellI {α : Type} (e : Enc α) (o : Nat) (f : α → Int) : Prop := ∀ {J : JV} {ds : List Value} {x : α}, e.rd J ds x → ds[o]? = some (.int .i64 (f x))
section
variable {P : Program} {c : Ctx} {S : Slots} {M : Conts} {p : Bool} {d : Option Tmp} {ty : TypeId} {pos : String} {af : Array Edge} {gd : Option (Nat × Bool)} {x y : Operand} {b b' : Bool}
end
section
variable {P : Program} {c : Ctx} {ops : Array Oper} {S : Slots} {M : Conts} {rest : List Oper} {Q : Exit → Act → World → Prop} {x y : Operand}
variable {ty : TypeId} {pos : String} {af : Array Edge}
end
section
variable {P : Program} {c : Ctx} {ops : Array Oper} {S : Slots} {M : Conts} {rest : List Oper} {Q : Exit → Act → World → Prop}
variable {d : Nat} {ty : TypeId} {pos : String} {af : Array Edge}
end
end Go.Fl

/- Contracts: the periods, in the program. -/
namespace Go.Fl
open Go Go.Proofs

end Go.Fl

/- Structs of integers that are equal. No program in sight. -/
namespace Go.Fl
open Go Go.RowKit
/-- A value that is a struct of integers, all of them known. -/
class KInts (k : Know) (xs : outParam (List Int)) : Prop where
  imp : ∀ {g : Gh} {v : Value}, k g v → v = .agg (xs.map (Value.int .i64)).toArray
instance {a b c : Int} : KInts (kAgg [kI a, kI b, kI c]) [a, b, c] := ⟨fun {g v} h => by
  obtain ⟨cs, rfl, h2⟩ := h
  match cs, h2 with
  | [_, _, _], ⟨rfl, rfl, rfl, _⟩ => rfl⟩
section
variable {P : Program} {c : Ctx} {S : Slots} {M : Conts} {p : Bool} {d : Option Tmp} {ty : TypeId} {pos : String} {af : Array Edge} {gd : Option (Nat × Bool)} {x y : Operand} {b b' : Bool}
end
end Go.Fl

/- Contracts: the law of strata. -/
namespace Go.Fl
open Go Go.Proofs

instance : TyInts Tryz.prog 40 3 := TyInts.mk' (by kernel_rfl) (by kernel_rfl) (by kernel_rfl) (by kernel_rfl)

instance {l : L3} : KInts (kRd eLat l) [l.1, l.2.1, l.2.2] := ⟨fun {g v} h => by
  obtain ⟨cs, h1, rfl⟩ := h
  obtain ⟨_, _, rfl, rfl, _, _, rfl, rfl, _, _, rfl, rfl, rfl⟩ := h1
  rfl⟩

end Go.Fl

/- Contracts: automorphisms, quotients. -/
namespace Go.Fl
open Go Go.Proofs

instance : NB 121 122 := ⟨rfl⟩

noncomputable def lstTo (o : Ori) (k : Nat) : List Int := fillTo 0 (fun i : Nat => mnO o i) o.1.length k
noncomputable def clsF (o : Ori) (y : Nat) : Int := atL (frs o o.1.length) (mnO o y)

end Go.Fl

/- Contracts: the law of automorphisms. -/
namespace Go.Fl
open Go Go.Proofs

end Go.Fl

/- Parts of rows that are immutable; functions that return a part of their argument; calls that take one of the caller's own rows for good. No program in sight. -/
namespace Go.Fl
open Go Go.RowKit
/-! ### 1. Parts of rows -/
theorem rowAt.take {α : Type} {e : Enc α} {J : JV} {b o n : Nat} {xs : List α} (h : rowAt e J b o xs) : rowAt e J b o (xs.take n) := fun i x hx => by
  rw [List.getElem?_take] at hx
  split at hx
  · exact h i x hx
  · cases hx
section
variable {P : Program} {c : Ctx} {S : Slots} {M : Conts} {p : Bool} {d : Option Tmp} {ty : TypeId} {pos : String} {af : Array Edge} {gd : Option (Nat × Bool)} {x y z : Operand} {b b' b'' : Bool}
end
end Go.Fl

/- Functions that return a part of their argument; calls that change a lent row and return a part of it; queues that become immutable. No program in sight. -/
namespace Go.Fl
open Go Go.RowKit
instance {t n o l : Nat} : OneC (kOsq t n o l) := ⟨fun ⟨_, _, _, _, _, _, h⟩ => by subst h; rfl⟩
/-! ### 1. Slices with their address -/
/-- A slice with its address and its room, and what it reads in immutable memory. -/
def kSlv {α : Type} (e : Enc α) (ad : Option Addr) (cap : Nat) (xs : List α) : Know := fun g v => v = .slice ad xs.length cap ∧ kRd (eL e) xs g v
instance {α : Type} (e : Enc α) (ad : Option Addr) (cap : Nat) (xs : List α) : KDep (kSlv e ad cap xs) [] := ⟨fun hJ hd h => ⟨h.1, (inferInstance : KDep (kRd (eL e) xs) []).dep hJ hd h.2⟩⟩
theorem kSlv.cast {α : Type} {e : Enc α} {ad : Option Addr} {cap : Nat} {xs ys : List α} (h : xs = ys) {g : Gh} {v : Value} (k : kSlv e ad cap xs g v) : kSlv e ad cap ys g v := h ▸ k
section
variable {P : Program} {c : Ctx} {S : Slots} {M : Conts} {p : Bool} {d : Option Tmp} {ty : TypeId} {pos : String} {af : Array Edge} {gd : Option (Nat × Bool)} {x y z : Operand} {b b' b'' : Bool}
end
/-! ### 2. A queue becomes immutable -/
def allOsq (S : Slots) (u n off len : Nat) : List Nat → Prop
  | [] => True
  | s :: r => look S s = some (true, kOsq u n off len) ∧ allOsq S u n off len r
section
variable {P : Program} {n : Nat} {w0 : World} {J0 : JV} {S : Slots} {M M' : Conts} {Q : Exit → Act → World → Prop} {ops : Array Oper} {rest : List Oper}
end
/-! ### 3. A lent row that is changed, and a part of it that comes back -/
/-- A slice of the call's own row t, of which the block is known by name. -/
def kOslAt (t len bl cap : Nat) : Know := fun g v => g.M t = some (.blk bl cap) ∧ v = .slice (some ⟨bl, 0, none⟩) len cap
instance (t len bl cap : Nat) : KDep (kOslAt t len bl cap) [t] := ⟨fun _ hd ⟨h1, h2⟩ => ⟨(hd t (by simp)).trans h1, h2⟩⟩
instance (t len bl cap : Nat) : KHas (kOslAt t len bl cap) t := ⟨fun ⟨h1, _⟩ => by rw [h1]; simp⟩
def RetBr (w : World) (J : JV) (b cap : Nat) (res : Know) (ct' : Cont) : Ending → World → Prop := fun e w' => ∃ r J', e = .returned r ∧ But (.blk b cap) w w' ∧ J.le J' ∧ (∀ b' o, b' < w.heap.size → J' b' o = J b' o) ∧ Im J' w' ∧ res (g1 J' b cap) r ∧ ct' (g1 J' b cap) (.blk b cap) w'.heap[b]?
/-- f changes the row that is its first argument; what it returns may be a part of it. -/
def CtR (P : Program) (f : FuncId) (len : Nat) (ks : List Know) (ct ct' : Cont) (res : Know) : Prop :=
  ∀ w J b cap, Im J w → (∀ o, J b o = none) → b < w.heap.size → ct (g1 J b cap) (.blk b cap) w.heap[b]? → ∀ v vs, v = .slice (some ⟨b, 0, none⟩) len cap → allK ⟨J, noM⟩ ks vs → Calls P f (v :: vs).toArray w (RetBr w J b cap res ct')
section
variable {P : Program} {c : Ctx} {S : Slots} {M : Conts} {p : Bool} {d : Option Tmp} {ty : TypeId} {pos : String} {af : Array Edge} {gd : Option (Nat × Bool)} {x : Operand} {b : Bool}
end
theorem CtR.mk {P : Program} {f : FuncId} {fn : Func} {code : Code} {args : List Know} {res : Know} {ct ct' : Cont} {n len : Nat} (hf : P.funcs[f]? = some fn) (hb : fn.body = some code) (hn : fn.ntmps = n) (hl : Nat.ble (args.length + 1) n = true) [hj : AllJ args] [hcd : CDep ct []]
    (h : ∀ w J b cap, Tr P ⟨w, J, [b], n⟩ (⟨0, true, [0], kOslAt 0 len b cap⟩ :: params 1 args) [⟨0, [], ct⟩] code (bodyPost P fn (RetBr w J b cap res ct'))) : CtR P f len args ct ct' res := by
  intro w J b cap him hJ hlt hct v vs hv hvs
  have hlen := allK_len hvs
  have hle : args.length + 1 ≤ n := Nat.le_of_ble_eq_true hl
  have hM : ∀ t bk, (g1 J b cap).M t = some bk → t = 0 ∧ bk = .blk b cap := fun t bk ht => by
    simp only [g1] at ht
    split at ht
    · rename_i e; cases ht; exact ⟨e, rfl⟩
    · cases ht
  refine calls_of_wp hf hb (h w J b cap _ (g1 J b cap) w ⟨⟨⟨rfl, rfl, rfl, Nat.le_refl _, fun _ _ _ => rfl, Nat.le_refl _⟩, JV.le_refl _, fun _ _ _ => rfl, him, fun t b' cap' ht => ?_, fun t t' b1 c1 c2 h1 h2 => ?_⟩, ?_, ?_, ?_, by simp, ?_, ?_, rfl, ?_⟩)
  · obtain ⟨_, e⟩ := hM _ _ ht
    cases e
    exact ⟨.inr (by simp), hlt, hJ⟩
  · rw [(hM _ _ h1).1, (hM _ _ h2).1]
  · intro t bb k hk
    simp only [look] at hk
    cases hb0 : Nat.beq 0 t with
    | true =>
      rw [hb0] at hk
      simp only [cond_true, Option.some.injEq, Prod.mk.injEq] at hk
      obtain ⟨rfl, rfl⟩ := hk
      have := Nat.eq_of_beq_eq_true hb0
      subst this
      refine ⟨fun _ => ?_, fun hf => (by cases hf)⟩
      have : ((v :: vs).toArray ++ Array.replicate (fn.ntmps - (v :: vs).toArray.size) undef).getD 0 undef = v := by
        rw [Array.getD_eq_getD_getElem?, Array.getElem?_append_left (by simp)]
        simp
      rw [this]
      exact ⟨by simp [g1], hv⟩
    | false =>
      rw [hb0] at hk
      obtain ⟨h1, rfl, u, hu, hku⟩ := params_hold (g := g1 J b cap) (allK_sameJ (g := ⟨J, noM⟩) (g' := g1 J b cap) (JV.le_refl _) hj.all hvs) hk
      refine ⟨fun _ => ?_, fun hf => (by cases hf)⟩
      have hu' : (v :: vs)[t]? = some u := by
        rw [show t = (t - 1) + 1 by omega]; simpa using hu
      have ht : t < (v :: vs).length := (List.getElem?_eq_some_iff.1 hu').1
      have : ((v :: vs).toArray ++ Array.replicate (fn.ntmps - (v :: vs).toArray.size) undef).getD t undef = u := by
        rw [Array.getD_eq_getD_getElem?, Array.getElem?_append_left (by simpa using ht)]
        simp only [List.getElem?_toArray]
        rw [hu']; rfl
      rw [this]; exact hku
  · intro e he
    simp only [List.mem_singleton] at he
    subst he
    exact ⟨_, by simp [g1], hct⟩
  · intro t ht
    cases hm : (g1 J b cap).M t with
    | none => exact absurd hm ht
    | some bk => simp [(hM _ _ hm).1]
  · intro e he
    rcases List.mem_cons.1 he with rfl | he
    · exact ⟨inferInstance, fun t ht => by simpa using ht⟩
    · obtain ⟨h1, h2⟩ := params_dep hj.all he
      exact ⟨h1, fun t ht => by rw [h2] at ht; cases ht⟩
  · intro e he
    simp only [List.mem_singleton] at he
    subst he
    exact ⟨hcd, fun t ht => by cases ht⟩
  · simp only [Array.size_append, List.size_toArray, Array.size_replicate, List.length_cons]; omega
section
variable {P : Program} {n : Nat} {w0 : World} {J0 : JV} {S : Slots} {M : Conts} {fn : Func} {b cap s t len : Nat} {ct ct' : Cont} {dep : List Nat} {k res : Know}
end
section
variable {P : Program} {c : Ctx} {ops : Array Oper} {S : Slots} {M : Conts} {rest : List Oper} {Q : Exit → Act → World → Prop}
variable {d : Nat} {ty : TypeId} {pos : String} {af : Array Edge}
end
/-! ### 4. A struct that comes back with a row of one's own -/
section
variable {P : Program} {n0 : Nat} {w0 : World} {J0 : JV} {S : Slots} {M : Conts} {fn : Func}
end
end Go.Fl

/- Closures: values that hold pointers to things of the call's own; their calls are gone through in place, with the caller's own things. No program in sight. -/
namespace Go.Fl
open Go Go.RowKit
/-! ### 1. A closure -/
def kClo (f : FuncId) (ks : List Know) : Know := fun g v => ∃ vs : List Value, v = .func (.func f) #[] vs.toArray ∧ allK g ks vs
instance {f : FuncId} {ks : List Know} {ds : List Nat} [h : KsDep ks ds] : KDep (kClo f ks) ds := ⟨fun hl hd ⟨vs, h1, h2⟩ => ⟨vs, h1, h.dep hl hd h2⟩⟩
instance {f : FuncId} {ks : List Know} : OneC (kClo f ks) := ⟨fun ⟨_, h, _⟩ => by subst h; rfl⟩
/-- What is known of operands, as the call's own ghost has it. -/
inductive ArgsG (S : Slots) (p : Bool) : List Operand → List Know → Prop
  | nil : ArgsG S p [] []
  | cons {x : Operand} {xs : List Operand} {k : Know} {ks : List Know} {b : Bool} (hx : opK S x = some (b, k)) (hb : p = true → b = true) (r : ArgsG S p xs ks) : ArgsG S p (x :: xs) (k :: ks)
theorem ArgsG.eval {S : Slots} {p : Bool} {g : Gh} {ρ : Operand → Value} (hp : p = true) : ∀ {xs : List Operand} {ks : List Know}, ArgsG S p xs ks → (∀ x ∈ xs, ∀ b k, opK S x = some (b, k) → b = true → k g (ρ x)) → allK g ks (xs.map ρ)
  | [], [], _, _ => trivial
  | x :: _, _ :: _, .cons hx hb r, h => ⟨h x List.mem_cons_self _ _ hx (hb hp), ArgsG.eval hp r fun y hy => h y (List.mem_cons_of_mem _ hy)⟩
section
variable {P : Program} {c : Ctx} {S : Slots} {M : Conts} {p : Bool} {d : Option Tmp} {ty : TypeId} {pos : String} {af : Array Edge} {gd : Option (Nat × Bool)} {x : Operand} {b : Bool}
theorem ok_clo {f : FuncId} {caps : List Operand} {ks : List Know} (ha : ArgsG S p caps ks) : OpOk P c S M ⟨d, .makeFunc (.func f) #[] caps.toArray, ty, pos, af, gd⟩ p (kClo f ks) none :=
  OpOk.pure fun hp a g w _ _ ho => by
    have hk := ha.eval (g := g) (ρ := a.eval) hp (fun y hy b k hk hb => ho y (by simp [Op.operands, hy]) b k hk hb)
    exact ⟨_, by simp [execOp, Instr.makeFunc], _, rfl, hk⟩
end
/-! ### 2. Things that stay where they are -/
/-- Whatever the slot: the thing t lies in bk. -/
def kTag (t : Nat) (bk : Bk) : Know := fun g _ => g.M t = some bk
instance (t : Nat) (bk : Bk) : KDep (kTag t bk) [t] := ⟨fun _ hd h => (hd t (by simp)).trans h⟩
instance (t : Nat) (bk : Bk) : KHas (kTag t bk) t := ⟨fun {g _} (h : g.M t = some bk) => by rw [h]; simp⟩
def tagSlots (n : Nat) (bks : Nat → Bk) : List Nat → Slots
  | [] => []
  | t :: ts => ⟨n + t, true, [t], kTag t (bks t)⟩ :: tagSlots n bks ts
/-- The slots that a callee begins with. -/
def paramsG : Nat → List (List Nat) → List Know → Slots
  | i, d :: ds, k :: ks => ⟨i, true, d, k⟩ :: paramsG (i + 1) ds ks
  | _, _, _ => []
inductive DepsK : List Know → List (List Nat) → Prop
  | nil : DepsK [] []
  | cons {k : Know} {ks : List Know} {d : List Nat} {ds : List (List Nat)} (h : KDep k d) (r : DepsK ks ds) : DepsK (k :: ks) (d :: ds)
class DepsOf (ks : List Know) (ds : outParam (List (List Nat))) : Prop where
  h : DepsK ks ds
instance : DepsOf [] [] := ⟨.nil⟩
instance {k : Know} {ks : List Know} {d : List Nat} {ds : List (List Nat)} [h : KDep k d] [r : DepsOf ks ds] : DepsOf (k :: ks) (d :: ds) := ⟨.cons h r.h⟩
theorem paramsG_hold {g : Gh} : ∀ {ks : List Know} {ds : List (List Nat)} {vs : List Value} {i t : Nat} {b : Bool} {k : Know}, allK g ks vs → look (paramsG i ds ks) t = some (b, k) → i ≤ t ∧ t < i + ks.length ∧ b = true ∧ ∃ v, vs[t - i]? = some v ∧ k g v
  | [], ds, _, _, _, _, _, _, h => by cases ds <;> cases h
  | _ :: _, [], _, _, _, _, _, _, h => by cases h
  | k0 :: ks, d :: ds, v :: vs, i, t, b, k, hh, h => by
    simp only [paramsG, look] at h
    cases hb : Nat.beq i t with
    | true =>
      rw [hb] at h
      simp only [cond_true, Option.some.injEq, Prod.mk.injEq] at h
      obtain ⟨rfl, rfl⟩ := h
      have := Nat.eq_of_beq_eq_true hb
      subst this
      exact ⟨Nat.le_refl _, by simp, rfl, v, by simp, hh.1⟩
    | false =>
      rw [hb] at h
      obtain ⟨h1, h2, h3, u, h4, h5⟩ := paramsG_hold hh.2 h
      refine ⟨by omega, by simp only [List.length_cons]; omega, h3, u, ?_, h5⟩
      rw [show t - i = (t - (i + 1)) + 1 by omega]; simpa using h4
theorem paramsG_mem : ∀ {ks : List Know} {ds : List (List Nat)} {i : Nat} {e : SE}, DepsK ks ds → e ∈ paramsG i ds ks → KDep e.k e.dep ∧ e.dep ∈ ds
  | [], ds, _, _, _, h => by cases ds <;> cases h
  | _ :: _, [], _, _, h, _ => by cases h
  | k :: ks, d :: ds, i, e, .cons hk r, h => by
    rcases List.mem_cons.1 h with rfl | h
    · exact ⟨hk, List.mem_cons_self⟩
    · obtain ⟨h1, h2⟩ := paramsG_mem r h
      exact ⟨h1, List.mem_cons_of_mem _ h2⟩
theorem look_app {S1 S2 : Slots} {t : Nat} {b : Bool} {k : Know} : look (S1 ++ S2) t = some (b, k) → look S1 t = some (b, k) ∨ look S2 t = some (b, k) := by
  induction S1 with
  | nil => exact .inr
  | cons e S1 ih =>
    intro h
    simp only [List.cons_append, look] at h ⊢
    cases hb : Nat.beq e.s t with
    | true => rw [hb] at h; exact .inl h
    | false => rw [hb] at h; exact ih h
theorem tagSlots_look {n : Nat} {bks : Nat → Bk} : ∀ {ts : List Nat} {t : Nat} {b : Bool} {k : Know}, look (tagSlots n bks ts) t = some (b, k) → b = true ∧ n ≤ t ∧ (t - n) ∈ ts ∧ k = kTag (t - n) (bks (t - n))
  | [], _, _, _, h => by cases h
  | u :: ts, t, b, k, h => by
    simp only [tagSlots, look] at h
    cases hb : Nat.beq (n + u) t with
    | true =>
      rw [hb] at h
      simp only [cond_true, Option.some.injEq, Prod.mk.injEq] at h
      have := Nat.eq_of_beq_eq_true hb
      subst this
      rw [Nat.add_sub_cancel_left]
      exact ⟨h.1.symm, by omega, List.mem_cons_self, h.2.symm⟩
    | false =>
      rw [hb] at h
      obtain ⟨h1, h2, h3, h4⟩ := tagSlots_look h
      exact ⟨h1, h2, List.mem_cons_of_mem _ h3, h4⟩
theorem tagSlots_mem {n : Nat} {bks : Nat → Bk} : ∀ {ts : List Nat} {e : SE}, e ∈ tagSlots n bks ts → ∃ t ∈ ts, e.dep = [t] ∧ e.k = kTag t (bks t)
  | [], _, h => by cases h
  | u :: ts, e, h => by
    rcases List.mem_cons.1 h with rfl | h
    · exact ⟨u, List.mem_cons_self, rfl, rfl⟩
    · obtain ⟨t, h1, h2⟩ := tagSlots_mem h
      exact ⟨t, List.mem_cons_of_mem _ h1, h2⟩
/-- What a call that was gone through in place leaves. -/
def RetI (c : Ctx) (keep : List Nat) (bks : Nat → Bk) (M : Conts) (res : Know) : Ending → World → Prop := fun e w' => ∃ r g', e = .returned r ∧ Ok c g' w' ∧ ContsHold M g' w' ∧ (∀ t, g'.M t ≠ none → t ∈ tags M) ∧ (tags M).Nodup ∧ ContsDep M M ∧ (∀ t ∈ keep, g'.M t = some (bks t)) ∧ res g' r
/-- What stays known of slots. -/
def keepS (keep : List Nat) : Slots → Slots
  | [] => []
  | e :: S => (cond (subT e.dep keep) e ⟨e.s, e.b, [], kAny⟩) :: keepS keep S
theorem keepS_look {keep : List Nat} : ∀ {S : Slots} {t : Nat} {b : Bool} {k : Know}, look (keepS keep S) t = some (b, k) → ∃ k0, look S t = some (b, k0) ∧ (k = kAny ∨ (k = k0 ∧ ∃ e ∈ S, e.k = k ∧ ∀ q ∈ e.dep, q ∈ keep))
  | [], _, _, _, h => by cases h
  | e :: S, t, b, k, h => by
    simp only [keepS] at h
    cases hs : subT e.dep keep with
    | true =>
      rw [hs] at h
      simp only [cond_true, look] at h ⊢
      cases hb : Nat.beq e.s t with
      | true =>
        rw [hb] at h
        simp only [cond_true, Option.some.injEq, Prod.mk.injEq] at h ⊢
        exact ⟨e.k, ⟨h.1, rfl⟩, .inr ⟨h.2.symm, e, List.mem_cons_self, h.2, subT_spec hs⟩⟩
      | false =>
        rw [hb] at h
        obtain ⟨k0, h1, h2⟩ := keepS_look h
        exact ⟨k0, h1, h2.imp id fun ⟨q1, e', q2, q3⟩ => ⟨q1, e', List.mem_cons_of_mem _ q2, q3⟩⟩
    | false =>
      rw [hs] at h
      simp only [cond_false, look] at h ⊢
      cases hb : Nat.beq e.s t with
      | true =>
        rw [hb] at h
        simp only [cond_true, Option.some.injEq, Prod.mk.injEq] at h ⊢
        exact ⟨e.k, ⟨h.1, rfl⟩, .inl h.2.symm⟩
      | false =>
        rw [hb] at h
        obtain ⟨k0, h1, h2⟩ := keepS_look h
        exact ⟨k0, h1, h2.imp id fun ⟨q1, e', q2, q3⟩ => ⟨q1, e', List.mem_cons_of_mem _ q2, q3⟩⟩
theorem keepS_mem {keep : List Nat} : ∀ {S : Slots} {e : SE}, e ∈ keepS keep S → (e ∈ S ∧ ∀ q ∈ e.dep, q ∈ keep) ∨ (e.dep = [] ∧ e.k = kAny)
  | [], _, h => by cases h
  | x :: S, e, h => by
    simp only [keepS] at h
    rcases List.mem_cons.1 h with h | h
    · cases hs : subT x.dep keep with
      | true => rw [hs] at h; subst h; exact .inl ⟨List.mem_cons_self, subT_spec hs⟩
      | false => rw [hs] at h; subst h; exact .inr ⟨rfl, rfl⟩
    · exact (keepS_mem h).imp (fun ⟨h1, h2⟩ => ⟨List.mem_cons_of_mem _ h1, h2⟩) id
section
variable {P : Program} {ops : Array Oper} {S : Slots} {M M' : Conts} {rest : List Oper} {Q : Exit → Act → World → Prop}
variable {d : Nat} {ty : TypeId} {pos : String} {af : Array Edge} {w0 : World} {J0 : JV} {bor : List Nat} {n : Nat}
/-- The call of a closure, gone through in place. -/
theorem TrL.inl {f : FuncId} [hf : TyFn P f] {fn : Func} {code : Code} {n' : Nat} {x : Operand} {args : List Operand} {tys : Array TypeId} {ks caps : List Know} {ds : List (List Nat)} {res : Know} {dep : List Nat} (keep : List Nat)
    (hfn : P.funcs[f]? = some fn) (hb : fn.body = some code) (hn' : fn.ntmps = n') (hlen : Nat.ble (ks.length + caps.length) n' = true)
    (hx : opK S x = some (true, kClo f caps)) (ha : ArgsG S true args ks) [hds : DepsOf (ks ++ caps) ds] (hdt : ds.all (fun d => subT d (tags M)) = true) (hkt : subT keep (tags M) = true)
    (M' : Conts) (hkt' : subT keep (tags M') = true) [hkr : KDep res dep] (hdr : subT dep (tags M') = true) (hn : Nat.blt d n = true)
    (h : ∀ (J : JV) (bks : Nat → Bk), Tr P ⟨w0, J, bor, n'⟩ (paramsG 0 ds (ks ++ caps) ++ tagSlots n' bks keep) M code (bodyPost P fn (RetI ⟨w0, J, bor, n'⟩ keep bks M' res)))
    (K : TrL P ⟨w0, J0, bor, n⟩ ops (⟨d, true, dep, res⟩ :: keepS keep S) M' rest Q) : TrL P ⟨w0, J0, bor, n⟩ ops S M (⟨some d, .call { callee := .value x, args := args.toArray, argTypes := tys }, ty, pos, af, none⟩ :: rest) Q := by
  intro a g w hsat
  have hdn : d < n := by simpa [Nat.blt_eq] using hn
  obtain ⟨cvs, hfv, hcaps⟩ := opK_holds hsat.slots hx rfl
  have hargs := ha.eval (g := g) (ρ := a.eval) rfl (fun y _ b k hk hb => opK_holds hsat.slots hk hb)
  have happ : ∀ {k1 k2 : List Know} {v1 v2 : List Value}, allK g k1 v1 → allK g k2 v2 → allK g (k1 ++ k2) (v1 ++ v2) := fun {k1} => by
    induction k1 with
    | nil => intro k2 v1 v2 h1 h2; cases v1 with
      | nil => exact h2
      | cons _ _ => exact h1.elim
    | cons k k1 ih => intro k2 v1 v2 h1 h2; cases v1 with
      | nil => exact h1.elim
      | cons v v1 => exact ⟨h1.1, ih h1.2 h2⟩
  have hall := happ hargs hcaps
  have hall_len := allK_len hall
  have hle : (ks ++ caps).length ≤ n' := by rw [List.length_append]; exact Nat.le_of_ble_eq_true hlen
  have hM : ∀ t ∈ tags M, ∃ bk, g.M t = some bk := fun t ht => by
    obtain ⟨e, he, rfl⟩ := List.mem_map.1 ht
    obtain ⟨bk, h1, _⟩ := hsat.conts e he
    exact ⟨bk, h1⟩
  have hkeep : ∀ t ∈ keep, g.M t = some ((g.M t).getD .nil) := fun t ht => by
    obtain ⟨bk, h1⟩ := hM t (subT_spec hkt t ht)
    rw [h1]; rfl
  have hr : Calls P f ((args.map a.eval ++ cvs).toArray) w (RetI ⟨w0, g.J, bor, n'⟩ keep (fun t => (g.M t).getD .nil) M' res) := by
    refine calls_of_wp hfn hb (h g.J (fun t => (g.M t).getD .nil) _ g w ⟨⟨hsat.ok.bel, JV.le_refl _, fun _ _ _ => rfl, hsat.ok.im, hsat.ok.own, hsat.ok.inj⟩, ?_, hsat.conts, hsat.dom, hsat.nodup, ?_, hsat.cdep, rfl, ?_⟩)
    · intro t b k hk
      rcases look_app hk with hk | hk
      · obtain ⟨_, h2, rfl, v, hv, hkv⟩ := paramsG_hold hall hk
        refine ⟨fun _ => ?_, fun hf => (by cases hf)⟩
        have ht : t < (args.map a.eval ++ cvs).length := (List.getElem?_eq_some_iff.1 (by simpa using hv)).1
        have : ((args.map a.eval ++ cvs).toArray ++ Array.replicate (fn.ntmps - (args.map a.eval ++ cvs).toArray.size) undef).getD t undef = v := by
          rw [Array.getD_eq_getD_getElem?, Array.getElem?_append_left (by simpa using ht), List.getElem?_toArray]
          rw [show (args.map a.eval ++ cvs)[t]? = some v by simpa using hv]
          rfl
        rw [this]; exact hkv
      · obtain ⟨rfl, _, h3, rfl⟩ := tagSlots_look hk
        exact ⟨fun _ => hkeep _ h3, fun hf => (by cases hf)⟩
    · intro e he
      rcases List.mem_append.1 he with he | he
      · obtain ⟨h1, h2⟩ := paramsG_mem hds.h he
        exact ⟨h1, fun t ht => subT_spec (List.all_eq_true.1 hdt _ h2) t ht⟩
      · obtain ⟨t, h1, h2, h3⟩ := tagSlots_mem he
        rw [h2, h3]
        exact ⟨inferInstance, fun q hq => by simp at hq; subst hq; exact subT_spec hkt _ h1⟩
    · simp only [Array.size_append, List.size_toArray, Array.size_replicate]; omega
  refine wpList_plain rfl fun K' hK' => ?_
  unfold Oper.wp
  simp only [execOp, resolve, hfv, Deferred.ofValue, Sem.run_bind, Sem.run_pure, Result.andThen_ok, invoke, List.map_toArray, List.append_toArray]
  rw [hf.run]
  simp only [Oper.upon]
  refine hr.mono fun e w' he => ?_
  obtain ⟨r, g', rfl, h1, h2, h3, h4, h5, h6, h7⟩ := he
  refine hK' _ _ (K _ g' _ ⟨⟨h1.bel, JV.le_trans hsat.ok.jle h1.jle, fun b o hb => (h1.jold b o hb).trans (hsat.ok.jold b o hb), h1.im, h1.own, h1.inj⟩, ?_, h2, h3, h4, ?_, h5, hsat.defers, by simp [Act.put, hsat.size]⟩)
  · refine SlotsHold.put (fun t b k hk => ?_) (by rw [hsat.size]; exact hdn) ⟨fun _ => h7, fun hf => by cases hf⟩
    obtain ⟨k0, q1, q2⟩ := keepS_look hk
    obtain ⟨q3, q4⟩ := hsat.slots t b k0 q1
    refine ⟨fun hb => ?_, q4⟩
    rcases q2 with rfl | ⟨rfl, e, he, rfl, hq⟩
    · trivial
    · exact (hsat.sdep e he).1.dep (g := g) h1.jle (fun t ht => by rw [h6 t (hq t ht), hkeep t (hq t ht)]) (q3 hb)
  · intro e he
    rcases List.mem_cons.1 he with rfl | he
    · exact ⟨hkr, subT_spec hdr⟩
    · rcases keepS_mem he with ⟨q1, q2⟩ | ⟨q1, q2⟩
      · exact ⟨(hsat.sdep e q1).1, fun t ht => subT_spec hkt' t (q2 t ht)⟩
      · rw [q1, q2]; exact ⟨inferInstance, fun _ h => by cases h⟩
end
/-! ### 3. The end of such a call -/
inductive KeptT (S : Slots) (n : Nat) (bks : Nat → Bk) : List Nat → Prop
  | nil : KeptT S n bks []
  | cons {t : Nat} {ts : List Nat} (h : look S (n + t) = some (true, kTag t (bks t))) (r : KeptT S n bks ts) : KeptT S n bks (t :: ts)
theorem KeptT.holds {S : Slots} {n : Nat} {bks : Nat → Bk} {a : Act} {g : Gh} (hs : SlotsHold S a g) : ∀ {ts : List Nat}, KeptT S n bks ts → ∀ t ∈ ts, g.M t = some (bks t)
  | _ :: _, .cons h r, t, ht => by
    rcases List.mem_cons.1 ht with rfl | ht
    · exact (hs _ _ _ h).1 rfl
    · exact r.holds hs t ht
section
variable {P : Program} {c : Ctx} {S : Slots} {M : Conts} {fn : Func} {keep : List Nat} {bks : Nat → Bk} {n t : Nat} {k res : Know}
theorem inl_post {a : Act} {g : Gh} {w : World} (hs : Sat c S M a g w) (hk : KeptT S n bks keep) {r : Value} (hr : res g r) : RetI c keep bks M res (.returned r) w :=
  ⟨r, g, rfl, hs.ok, hs.conts, hs.dom, hs.nodup, hs.cdep, hk.holds hs.slots, hr⟩
theorem Rts.inl0 (hr : fn.results = #[]) (hk : KeptT S n bks keep) : Rts c S M (bodyPost P fn (RetI c keep bks M (kDet (.tuple #[])))) :=
  fun _ _ _ hs => ⟨hs.defers, .tuple #[], by simp [results, hr], inl_post hs hk rfl⟩
theorem End.inl0 (hr : fn.results = #[]) (hk : KeptT S n bks keep) : End c S M (bodyPost P fn (RetI c keep bks M (kDet (.tuple #[])))) :=
  fun _ _ _ hs => ⟨hs.defers, .tuple #[], by simp [results, hr], inl_post hs hk rfl⟩
end
end Go.Fl

/- Parts of a row with their address: in states and results. No program in sight. -/
namespace Go.Fl
open Go Go.RowKit
theorem kSlv.down {α : Type} {e : Enc α} {ad : Option Addr} {cap : Nat} {xs : List α} {g : Gh} {v : Value} (k : kSlv e ad cap xs g v) : kSlv e ad cap xs ⟨g.J, noM⟩ v :=
  (inferInstance : KDep (kSlv e ad cap xs) []).dep (g := g) (g' := ⟨g.J, noM⟩) (JV.le_refl _) (fun _ h => by cases h) k
theorem RetOk.v {S : Slots} {t : Nat} {ts : List Nat} {ks : List Know} {α : Type} {e : Enc α} {ad : Option Addr} {cap : Nat} {xs ys : List α} (hl : look S t = some (true, kSlv e ad cap xs)) (he : xs = ys) (r : RetOk S ts ks) : RetOk S (t :: ts) (kSlv e ad cap ys :: ks) :=
  .cons hl (fun _ _ h => (h.cast he).down) r
theorem SSub.v {S S' : Slots} {M M' : Conts} {s : Nat} {α : Type} {e : Enc α} {ad : Option Addr} {cap : Nat} {xs ys : List α} (hl : look S s = some (true, kSlv e ad cap xs)) (he : xs = ys) (r : SSub S M S' M') : SSub S M (⟨s, true, [], kSlv e ad cap ys⟩ :: S') M' :=
  SSub.conv hl rfl (fun _ _ h => h.cast he) rfl r
section
variable {P : Program} {c : Ctx} {S : Slots} {M : Conts} {p : Bool} {d : Option Tmp} {ty : TypeId} {pos : String} {af : Array Edge} {gd : Option (Nat × Bool)} {x y : Operand} {b b' : Bool}
end
/-! ### Some of the blocks are not written within a region that draws -/
section
variable {P : Program} {c : Ctx} {S : Slots} {M1 M2 M : Conts} {Q : Exit → Act → World → Prop} {a : Act} {g : Gh} {w : World}
end
end Go.Fl

/- Structs that come back with a row of one's own, of which a part is wanted. No program in sight. -/
namespace Go.Fl
open Go Go.RowKit
instance {x : Bool} {u n m : Nat} : KDep (kAgg [kB x, kOsq u n 0 m]) [u] := (inferInstance : KDep (kAgg [kB x, kOsq u n 0 m]) _)
theorem ArgsOk.se {S : Slots} {p b : Bool} {x : Operand} {xs : List Operand} {kl : List Know} {α : Type} {e : Enc α} {v v' : α} {ks : List Know} (hx : opK S x = some (b, kAgg kl)) (hb : p = true → b = true) [hr : RdOf kl e v []] (ha : e.agg = true) (he : v = v') (r : ArgsOk S p xs ks) : ArgsOk S p (x :: xs) (kRd e v' :: ks) := by
  subst he; exact ArgsOk.s hx hb ha r
/-! ### A field of a value -/
section
variable {P : Program} {c : Ctx} {S : Slots} {M : Conts} {p : Bool} {d : Option Tmp} {ty : TypeId} {pos : String} {af : Array Edge} {gd : Option (Nat × Bool)} {x : Operand} {b : Bool}
end
end Go.Fl

/- Two structs that come back out of cells; a struct with a nil row. No program in sight. -/
namespace Go.Fl
open Go Go.RowKit
section
variable {P : Program} {n0 : Nat} {w0 : World} {J0 : JV} {S : Slots} {M : Conts} {fn : Func}
end
section
variable {P : Program} {c : Ctx} {S : Slots} {M : Conts} {Sp : World → Prop} {d : Option Tmp} {ty : TypeId} {pos : String} {af : Array Edge} {gd : Option (Nat × Bool)} {x : Operand}
end
theorem SSub.n {S S' : Slots} {M M' : Conts} {s cp : Nat} {α : Type} {e : Enc α} {y : List α} (hl : look S s = some (true, kDet (.slice none 0 cp))) (he : [] = y) (r : SSub S M S' M') : SSub S M (⟨s, true, [], kRd (eL e) y⟩ :: S') M' :=
  SSub.conv hl rfl (fun _ _ h => by subst he; exact ⟨_, rd_nil (c := cp), h⟩) rfl r
end Go.Fl

/- Closures whose captured values are immutable: their calls are calls by contract. No program in sight. -/
namespace Go.Fl
open Go Go.RowKit
/-- A function value that keeps a contract. -/
def kFnC {α : Type} (P : Program) (φ : α → Prop) (ks : α → List Know) (res : α → Know) : Know := fun g v => ∃ (f : FuncId) (caps : Array Value), v = .func (.func f) #[] caps ∧ TyFn P f ∧ ∀ a, φ a → ∀ w J, g.J.le J → Im J w → ∀ vs, allK ⟨J, noM⟩ (ks a) vs → Calls P f (vs.toArray ++ caps) w (RetR w J (res a))
instance {α : Type} {P : Program} {φ : α → Prop} {ks : α → List Know} {res : α → Know} : KDep (kFnC P φ ks res) [] := ⟨fun hl _ ⟨f, caps, h1, h2, h3⟩ => ⟨f, caps, h1, h2, fun a ha w J hJ => h3 a ha w J (JV.le_trans hl hJ)⟩⟩
instance {α : Type} {P : Program} {φ : α → Prop} {ks : α → List Know} {res : α → Know} : OneC (kFnC P φ ks res) := ⟨fun ⟨_, _, h, _⟩ => by subst h; rfl⟩
theorem allK_app {g : Gh} : ∀ {ks ks' : List Know} {vs vs' : List Value}, allK g ks vs → allK g ks' vs' → allK g (ks ++ ks') (vs ++ vs')
  | [], _, [], _, _, h => h
  | [], _, _ :: _, _, h, _ => h.elim
  | _ :: _, _, [], _, h, _ => h.elim
  | _ :: _, _, _ :: _, _, h, h' => ⟨h.1, allK_app h.2 h'⟩
theorem kFnC_clo {α : Type} {P : Program} {f : FuncId} [hf : TyFn P f] {φ : α → Prop} {ks : α → List Know} {res : α → Know} {cks : List Know} [hj : AllJ cks] (h : ∀ a, φ a → Ct P f (ks a ++ cks) (res a)) (g : Gh) (v : Value) (hv : kClo f cks g v) : kFnC P φ ks res g v := by
  obtain ⟨cvs, rfl, hc⟩ := hv
  refine ⟨f, cvs.toArray, rfl, hf, fun a ha w J hJ him vs hvs => ?_⟩
  have h1 : allK ⟨J, noM⟩ cks cvs := allK_mono (J := g.J) hJ hj.all (allK_sameJ (g := g) (g' := ⟨g.J, noM⟩) (JV.le_refl _) hj.all hc)
  have := h a ha w J him (vs ++ cvs) (allK_app hvs h1)
  rwa [List.append_toArray]
section
variable {P : Program} {c : Ctx} {S : Slots} {M : Conts} {p : Bool} {d : Option Tmp} {ty : TypeId} {pos : String} {af : Array Edge} {gd : Option (Nat × Bool)} {x : Operand} {b : Bool}
theorem ok_callC {α : Type} (a : α) {φ : α → Prop} {ks : α → List Know} {res : α → Know} {args : List Operand} {tys : Array TypeId} (hx : opK S x = some (b, kFnC P φ ks res)) (hb : p = true → b = true) (ha : p = true → φ a) (hargs : ArgsOk S p args (ks a)) [hk : KDep (res a) []] :
    OpOk P c S M ⟨d, .call { callee := .value x, args := args.toArray, argTypes := tys }, ty, pos, af, gd⟩ p (res a) none := by
  intro hp q g w hok hc ho _
  obtain ⟨f, caps, hfv, hf, hct⟩ := ho x (by simp [Op.operands, Call.operands]) b _ hx (hb hp)
  have hvs := hargs.eval (g := g) (ρ := q.eval) hp (fun y hy b k hk hb => ho y (by simp [Op.operands, Call.operands, hy]) b k hk hb)
  have hr := hct a (ha hp) w g.J (JV.le_refl _) hok.im _ hvs
  unfold Oper.wp
  simp only [execOp, resolve, hfv, Deferred.ofValue, Sem.run_bind, Sem.run_pure, Result.andThen_ok, invoke, List.map_toArray, Array.empty_append]
  rw [hf.run]
  simp only [Oper.upon]
  refine hr.mono fun e w' he => ?_
  obtain ⟨r, J', rfl, hbel, hJ, hold, him, hres⟩ := he
  exact ⟨r, _, rfl, Did.call hok hbel hJ hold him hres⟩
end
/-! ### Function values in cells -/
/-- A cell that holds what k knows. -/
def eFn (k : Know) [hk : KDep k []] [h1 : OneC k] : Enc Unit where
  n := 1
  agg := false
  rd J cs _ := ∃ v, cs = [v] ∧ k ⟨J, noM⟩ v
  len := fun ⟨v, h, _⟩ => by rw [h]; rfl
  one := fun _ => ⟨rfl, fun ⟨v, h, hv⟩ => by cases h; exact h1.imp hv⟩
  all1 := fun ⟨v, h, hv⟩ u hu => by rw [h] at hu; simp at hu; subst hu; exact h1.imp hv
  mono := fun hJ ⟨v, h, hv⟩ => ⟨v, h, hk.dep (g := ⟨_, noM⟩) hJ (fun _ h => by cases h) hv⟩
instance {k : Know} [hk : KDep k []] [h1 : OneC k] : Norm (eFn k) () k := ⟨fun {g v} ⟨cs, ⟨u, h, hu⟩, hv⟩ => by
  subst h
  have e : v = u := hv
  subst e
  exact hk.dep (g := ⟨g.J, noM⟩) (g' := g) (JV.le_refl _) (fun _ h => by cases h) hu⟩
theorem RdOf.fn {k : Know} [hk : KDep k []] [h1 : OneC k] {r : List Know} : RdOf (k :: r) (eFn k) () r := .one fun {g v} h => ⟨v, rfl, hk.dep (g := g) (g' := ⟨g.J, noM⟩) (JV.le_refl _) (fun _ h => by cases h) h⟩
instance {α : Type} {P : Program} {φ : α → Prop} {ks : α → List Know} {res : α → Know} {r : List Know} : RdOf (kFnC P φ ks res :: r) (eFn (kFnC P φ ks res)) () r := .fn
end Go.Fl

/- Searching a list, rows above others. Plain Lean, no program in sight. -/
namespace Go.Fl
/-- The first place at which f holds, or -1. -/
def ixF (f : Int → Bool) : List Int → Int
  | [] => -1
  | x :: l => if f x = true then 0 else if ixF f l < 0 then -1 else ixF f l + 1
theorem ixF_none {f : Int → Bool} : ∀ {l : List Int}, (∀ i, i < l.length → f (nth l i) = false) → ixF f l = -1
  | [], _ => rfl
  | x :: l, h => by
    have h0 := h 0 (by simp)
    have e : nth (x :: l) 0 = x := rfl
    rw [e] at h0
    rw [ixF, if_neg (by rw [h0]; simp), ixF_none fun i hi => h (i + 1) (by simpa using hi)]
    rfl
theorem ixF_at {f : Int → Bool} : ∀ {l : List Int} {k : Nat}, k < l.length → (∀ i, i < k → f (nth l i) = false) → f (nth l k) = true → ixF f l = k
  | [], k, hk, _, _ => by simp at hk
  | x :: l, 0, _, _, h => by
    have e : nth (x :: l) 0 = x := rfl
    rw [e] at h
    rw [ixF, if_pos h]; rfl
  | x :: l, k + 1, hk, hn, h => by
    have h0 := hn 0 (by omega)
    have e : nth (x :: l) 0 = x := rfl
    rw [e] at h0
    have ih := ixF_at (l := l) (k := k) (by simpa using hk) (fun i hi => hn (i + 1) (by omega)) h
    rw [ixF, if_neg (by rw [h0]; simp), ih, if_neg (by omega)]
    rfl
theorem ixF_any {f : Int → Bool} : ∀ {l : List Int}, decide (0 ≤ ixF f l) = l.any f
  | [] => rfl
  | x :: l => by
    have ih := ixF_any (f := f) (l := l)
    rw [List.any_cons, ixF]
    by_cases h : f x = true
    · rw [if_pos h, h]; rfl
    · rw [if_neg h, Bool.eq_false_iff.2 h, Bool.false_or, ← ih]
      split
      · rw [decide_eq_decide]; omega
      · rw [decide_eq_decide]; omega
/-- The squares above others. -/
def abvL (o : Ori) (l : List Int) : List Int := tab l.length fun k => nth o.2 (nth l k).toNat
/-- The least of the first k elements (k is not 0). -/
def mnK (l : List Int) : Nat → Int
  | 0 => nth l 0
  | 1 => nth l 0
  | k + 2 => if nth l (k + 1) < mnK l (k + 1) then nth l (k + 1) else mnK l (k + 1)
theorem mnK_succ {l : List Int} {k : Nat} (h : 1 ≤ k) : (if nth l k < mnK l k then nth l k else mnK l k) = mnK l (k + 1) := by
  obtain ⟨j, rfl⟩ : ∃ j, k = j + 1 := ⟨k - 1, by omega⟩
  rfl
/-- The least square of the first k rows. -/
def lsK (L : List (List Int)) : Nat → Int
  | 0 => nth (nth L 0) 0
  | k + 1 => if mnK (nth L k) (nth L k).length < lsK L k then mnK (nth L k) (nth L k).length else lsK L k
def lsB (L : List (List Int)) : Int := lsK L L.length
theorem mnK_mem {l : List Int} : ∀ {k : Nat}, k ≤ l.length → 0 < l.length → mnK l k ∈ l
  | 0, _, h => nth_mem h
  | 1, _, h => nth_mem h
  | k + 2, hk, h => by
    rw [mnK]
    split
    · exact nth_mem (by omega)
    · exact mnK_mem (by omega) h
theorem lsK_mem {L : List (List Int)} (h : ∀ l ∈ L, 0 < l.length) (h0 : 0 < L.length) : ∀ {k : Nat}, k ≤ L.length → ∃ l ∈ L, lsK L k ∈ l
  | 0, _ => ⟨nth L 0, nth_mem h0, nth_mem (h _ (nth_mem h0))⟩
  | k + 1, hk => by
    rw [lsK]
    split
    · exact ⟨nth L k, nth_mem (by omega), mnK_mem (Nat.le_refl _) (h _ (nth_mem (by omega)))⟩
    · exact lsK_mem h h0 (by omega)
end Go.Fl

/- Contracts: searches by function values, rows above others. -/
namespace Go.Fl
open Go Go.Proofs

set_option maxRecDepth 100000 in
theorem ct_idxF (l : List Int) (φ : Int → Prop) (f : Int → Bool) (hl : ∀ x ∈ l, φ x) : Ct Tryz.prog 84 [kRd (eL eI) l, kFnC Tryz.prog φ (fun x : Int => [kI x]) (fun x : Int => kB (f x))] (kI (ixF f l)) := by
  refine Ct.mk Tryz.func84 rfl Tryz.ntmps84 rfl (fun w J => ?_)
  refine Tr.fact (s := 0) rfl (fun _ _ h => lenB h) (fun hb => ?_)
  refine Tr.seq ?_
  refine Tr.rg ?_
  refine TrL.op (ok_assign rfl (fun _ => rfl)) rfl rfl ?_
  refine TrL.fin ?_
  refine End.nxt ?_
  refine Tr.seq ?_
  refine Tr.seq ?_
  refine Tr.rg ?_
  refine TrL.op (ok_move rfl (fun _ => rfl)) rfl rfl ?_
  refine TrL.op (ok_lenJ rfl (fun _ => rfl)) rfl rfl ?_
  refine TrL.op (ok_move rfl (fun _ => rfl)) rfl rfl ?_
  refine TrL.fin ?_
  refine End.nxt ?_
  refine Tr.for1 (σ := Nat) [⟨0, true, _, _⟩, ⟨1, true, _, _⟩, ⟨7, true, _, _⟩] [] (fun k => [⟨8, true, [], kI (k : Int)⟩]) (fun k => []) (fun k => k ≤ l.length ∧ ∀ i, i < k → f (nth l i) = false) (fun k => ∀ i, i < l.length → f (nth l i) = false) (fun k => l.length - k) (0) ⟨by omega, fun i h => absurd h (by omega)⟩ (Ent.mk (.i rfl (by first | rfl | omega | (simp; done) | (simp; omega) | assumption) <| .k rfl rfl <| .k rfl rfl <| .k rfl rfl <| .nil) (.nil) rfl) ?_ ?_
  · rintro k ⟨hk, hR⟩
    refine Tr.norm (S' := [⟨8, true, _, _⟩, ⟨0, true, _, _⟩, ⟨1, true, _, _⟩, ⟨7, true, _, _⟩]) (M' := []) rfl rfl ?_
    refine Tr.seq ?_
    refine Tr.rg ?_
    refine TrL.op (ok_lss rfl (fun _ => rfl) rfl (fun _ => rfl)) rfl rfl ?_
    refine TrL.fin ?_
    refine End.nxt ?_
    refine Tr.seq ?_
    refine Tr.cnd rfl ?_ ?_
    · intro h2
      replace h2 := of_decide_eq_true h2
      refine Tr.skip ?_
      refine End.nxt ?_
      refine Tr.seq ?_
      refine Tr.blk ?_
      refine Tr.seq ?_
      refine Tr.rg ?_
      refine TrL.op (ok_move rfl (fun _ => rfl)) rfl rfl ?_
      refine TrL.op (ok_assign rfl (fun _ => rfl)) rfl rfl ?_
      refine TrL.fin ?_
      refine End.nxt ?_
      refine Tr.seq ?_
      refine Tr.rg ?_
      refine TrL.op (ok_move rfl (fun _ => rfl)) rfl rfl ?_
      refine TrL.op (ok_move rfl (fun _ => rfl)) rfl rfl ?_
      refine TrL.op (ok_move rfl (fun _ => rfl)) rfl rfl ?_
      first | refine TrL.op (ok_idxN rfl (fun _ => rfl) rfl (fun _ => rfl) rfl (fun _ => by omega)) rfl rfl ?_ | refine TrL.op (ok_idxP rfl (fun _ => rfl) rfl (fun _ => rfl) rfl (fun _ => by omega)) rfl rfl ?_
      refine TrL.op (ok_ldP rfl (fun _ => rfl) rfl) rfl rfl ?_
      refine TrL.op (ok_callC (nth l k) rfl (fun _ => rfl) (fun _ => hl _ (nth_mem (by omega))) (.a rfl (fun _ => rfl) <| .nil)) rfl rfl ?_
      refine TrL.fin ?_
      refine End.nxt ?_
      refine Tr.cnd rfl ?_ ?_
      · intro h4
        refine Tr.seq ?_
        refine Tr.rg ?_
        refine TrL.op (ok_move rfl (fun _ => rfl)) rfl rfl ?_
        refine TrL.op (ok_assign rfl (fun _ => rfl)) rfl rfl ?_
        refine TrL.fin ?_
        refine End.nxt ?_
        refine Tr.ret ?_
        refine Rts.out ?_
        refine Rts.thn ?_
        refine Rts.thn ?_
        refine Rts.out ?_
        refine Rts.thn ?_
        refine Rts.thn ?_
        exact Rts.res1 (fn := Tryz.f84) rfl (.i rfl (ixF_at (by omega) hR h4).symm <| .nil)
      · intro h4
        refine Tr.skip ?_
        refine End.blk ?_
        refine End.nxt ?_
        refine Tr.rg ?_
        refine TrL.op (ok_add rfl (fun _ => rfl) rfl (fun _ => rfl) (fun _ => by omega)) rfl rfl ?_
        refine TrL.op (ok_move rfl (fun _ => rfl)) rfl rfl ?_
        refine TrL.fin ?_
        exact End.lp (k + 1) ⟨by omega, fun i hi => by (rcases Nat.lt_succ_iff_lt_or_eq.1 hi with h | h; exact hR i h; subst h; exact h4)⟩ (by omega) (Ent.mk (.i rfl (by first | rfl | omega | (simp; done) | (simp; omega) | assumption) <| .k rfl rfl <| .k rfl rfl <| .k rfl rfl <| .nil) (.nil) rfl)
    · intro h2
      replace h2 := Int.not_lt.1 (of_decide_eq_false h2)
      refine Tr.exit ?_
      refine Exs.thn ?_
      refine Exs.thn ?_
      refine Exs.here ?_
      exact End.cut (k) (fun i hi => hR i (by omega)) (Ent.mk (.i rfl (by first | rfl | omega | (simp; done) | (simp; omega) | assumption) <| .k rfl rfl <| .k rfl rfl <| .k rfl rfl <| .nil) (.nil) rfl)
  · intro k hE
    refine End.norm (S' := [⟨8, true, _, _⟩, ⟨0, true, _, _⟩, ⟨1, true, _, _⟩, ⟨7, true, _, _⟩]) (M' := []) rfl rfl ?_
    refine End.nxt ?_
    refine Tr.seq ?_
    refine Tr.rg ?_
    refine TrL.op (ok_assign rfl (fun _ => rfl)) rfl rfl ?_
    refine TrL.fin ?_
    refine End.nxt ?_
    refine Tr.ret ?_
    exact Rts.res1 (fn := Tryz.f84) rfl (.i rfl (ixF_none hE).symm <| .nil)

set_option maxRecDepth 100000 in
theorem ct_contF (l : List Int) (φ : Int → Prop) (f : Int → Bool) (hl : ∀ x ∈ l, φ x) : Ct Tryz.prog 44 [kRd (eL eI) l, kFnC Tryz.prog φ (fun x : Int => [kI x]) (fun x : Int => kB (f x))] (kB (l.any f)) := by
  refine Ct.mk Tryz.func44 rfl Tryz.ntmps44 rfl (fun w J => ?_)
  refine Tr.seq ?_
  refine Tr.rg ?_
  refine TrL.op (ok_assign rfl (fun _ => rfl)) rfl rfl ?_
  refine TrL.fin ?_
  refine End.nxt ?_
  refine Tr.seq ?_
  refine Tr.rg ?_
  refine TrL.op (ok_move rfl (fun _ => rfl)) rfl rfl ?_
  refine TrL.op (ok_move rfl (fun _ => rfl)) rfl rfl ?_
  refine TrL.op (ok_call (fun hp => ct_idxF _ _ _ (by assumption)) (.a rfl (fun _ => rfl) <| .a rfl (fun _ => rfl) <| .nil)) rfl rfl ?_
  refine TrL.op (ok_geq rfl (fun _ => rfl) rfl (fun _ => rfl)) rfl rfl ?_
  refine TrL.op (ok_assign rfl (fun _ => rfl)) rfl rfl ?_
  refine TrL.fin ?_
  refine End.nxt ?_
  refine Tr.ret ?_
  exact Rts.res1 (fn := Tryz.f44) rfl (.b rfl ixF_any <| .nil)

set_option maxRecDepth 100000 in
theorem ct_cyl11 (x : Int) (v : List Int) (hx : 0 ≤ x ∧ x < v.length) : Ct Tryz.prog 45 [kI x, kPtr (eL eI) v] (kB (decide (0 < nth v x.toNat))) := by
  refine Ct.mk Tryz.func45 rfl Tryz.ntmps45 rfl (fun w J => ?_)
  refine Tr.seq ?_
  refine Tr.rg ?_
  refine TrL.op (ok_assign rfl (fun _ => rfl)) rfl rfl ?_
  refine TrL.fin ?_
  refine End.nxt ?_
  refine Tr.seq ?_
  refine Tr.rg ?_
  refine TrL.op (ok_ldP rfl (fun _ => rfl) rfl) rfl rfl ?_
  refine TrL.op (ok_move rfl (fun _ => rfl)) rfl rfl ?_
  first | refine TrL.op (ok_idxN rfl (fun _ => rfl) rfl (fun _ => rfl) rfl (fun _ => by omega)) rfl rfl ?_ | refine TrL.op (ok_idxP rfl (fun _ => rfl) rfl (fun _ => rfl) rfl (fun _ => by omega)) rfl rfl ?_
  refine TrL.op (ok_ldP rfl (fun _ => rfl) rfl) rfl rfl ?_
  refine TrL.op (ok_gtr rfl (fun _ => rfl) rfl (fun _ => rfl)) rfl rfl ?_
  refine TrL.op (ok_assign rfl (fun _ => rfl)) rfl rfl ?_
  refine TrL.fin ?_
  refine End.nxt ?_
  refine Tr.ret ?_
  exact Rts.res1 (fn := Tryz.f45) rfl (.b rfl (by first | rfl | omega | (simp; done) | (simp; omega) | assumption) <| .nil)

set_option maxRecDepth 100000 in
theorem ct_cyl1 (l : List Int) (m : Bool) (v : List Int) (hl : ∀ x ∈ l, 0 ≤ x ∧ x < v.length) : Ct Tryz.prog 43 [kRd (eL eI) l, kPtr eBool m, kPtr (eL eI) v] (kB (m || l.any fun x => decide (0 < nth v x.toNat))) := by
  refine Ct.mk Tryz.func43 rfl Tryz.ntmps43 rfl (fun w J => ?_)
  refine Tr.seq ?_
  refine Tr.rg ?_
  refine TrL.op (ok_assign rfl (fun _ => rfl)) rfl rfl ?_
  refine TrL.fin ?_
  refine End.nxt ?_
  refine Tr.seq ?_
  refine Tr.rg ?_
  refine TrL.op (ok_ldP rfl (fun _ => rfl) rfl) rfl rfl ?_
  refine TrL.op (ok_move rfl (fun _ => rfl)) rfl rfl ?_
  refine TrL.gd rfl rfl rfl (ok_move rfl (fun _ => rfl)) rfl rfl ?_
  refine TrL.gd rfl rfl rfl (ok_clo (.cons rfl (fun _ => rfl) .nil)) rfl rfl ?_
  refine TrL.gd rfl rfl rfl (ok_call (fun hp => ct_contF l (fun x => 0 ≤ x ∧ x < v.length) (fun x => decide (0 < nth v x.toNat)) hl) (.a rfl id <| .cons rfl id (fun g u h => kFnC_clo (fun a ha => ct_cyl11 a v ha) g u h) <| .nil)) rfl rfl ?_
  refine TrL.op (ok_or rfl (fun _ => rfl) rfl (fun hp h => gdF2 ((fun _ => rfl) hp) h)) rfl rfl ?_
  refine TrL.op (ok_assign rfl (fun _ => rfl)) rfl rfl ?_
  refine TrL.fin ?_
  refine End.nxt ?_
  refine Tr.ret ?_
  exact Rts.res1 (fn := Tryz.f43) rfl (.b rfl (by first | rfl | omega | (simp; done) | (simp; omega) | assumption) <| .nil)

set_option maxRecDepth 100000 in
theorem ct_above (o : Ori) (l : List Int) (hl : ∀ x ∈ l, 0 ≤ x ∧ x < o.2.length) (hn : l.length ≤ 1000000) : Ct Tryz.prog 47 [kRd eO o, kRd (eL eI) l] (kRd (eL eI) (abvL o l)) := by
  refine Ct.mk Tryz.func47 rfl Tryz.ntmps47 rfl (fun w J => ?_)
  refine Tr.seq ?_
  refine Tr.rg ?_
  refine TrL.new (ok_box 2 rfl (fun _ => rfl) rfl) rfl rfl rfl rfl ?_
  refine TrL.op (ok_assign rfl (fun _ => rfl)) rfl rfl ?_
  refine TrL.fin ?_
  refine End.nxt ?_
  refine Tr.seq ?_
  refine Tr.rg ?_
  refine TrL.op (ok_move rfl (fun _ => rfl)) rfl rfl ?_
  refine TrL.op (ok_lenJ rfl (fun _ => rfl)) rfl rfl ?_
  refine TrL.new (ok_makeN eI 10 rfl (fun _ => rfl) rfl (fun _ => rfl) rfl rfl rfl (fun _ => by omega)) rfl rfl rfl rfl ?_
  refine TrL.op (ok_assign rfl (fun _ => rfl)) rfl rfl ?_
  refine TrL.fin ?_
  refine End.nxt ?_
  refine Tr.seq ?_
  refine Tr.seq ?_
  refine Tr.rg ?_
  refine TrL.op (ok_move rfl (fun _ => rfl)) rfl rfl ?_
  refine TrL.op (ok_lenJ rfl (fun _ => rfl)) rfl rfl ?_
  refine TrL.op (ok_move rfl (fun _ => rfl)) rfl rfl ?_
  refine TrL.fin ?_
  refine End.nxt ?_
  refine Tr.for1 (σ := Nat) [⟨2, true, _, _⟩, ⟨5, true, _, _⟩, ⟨11, true, _, _⟩, ⟨12, true, _, _⟩] [⟨2, _, _⟩] (fun k => [⟨13, true, [], kI (k : Int)⟩]) (fun k => [⟨10, [], cArr false 3 eI (fillTo 0 (fun k => nth o.2 (nth l k).toNat) l.length k) l.length⟩]) (fun k => k ≤ l.length) (fun k => k = l.length) (fun k => l.length - k) (0) (Nat.zero_le _) (Ent.mk (.i rfl (by first | rfl | omega | (simp; done) | (simp; omega) | assumption) <| .k rfl rfl <| .k rfl rfl <| .k rfl rfl <| .k rfl rfl <| .nil) (.a fillTo_zero (by first | rfl | omega | (simp; done) | (simp; omega) | assumption) <| .k rfl <| .nil) rfl) ?_ ?_
  · intro k hR0
    refine Tr.norm (S' := [⟨13, true, _, _⟩, ⟨2, true, _, _⟩, ⟨5, true, _, _⟩, ⟨11, true, _, _⟩, ⟨12, true, _, _⟩]) (M' := [⟨10, _, _⟩, ⟨2, _, _⟩]) rfl rfl ?_
    have hlk := fun (h : k < l.length) => hl _ (nth_mem h)
    refine Tr.seq ?_
    refine Tr.rg ?_
    refine TrL.op (ok_lss rfl (fun _ => rfl) rfl (fun _ => rfl)) rfl rfl ?_
    refine TrL.fin ?_
    refine End.nxt ?_
    refine Tr.seq ?_
    refine Tr.cnd rfl ?_ ?_
    · intro h3
      replace h3 := of_decide_eq_true h3
      refine Tr.skip ?_
      refine End.nxt ?_
      refine Tr.seq ?_
      refine Tr.blk ?_
      refine Tr.seq ?_
      refine Tr.rg ?_
      refine TrL.op (ok_move rfl (fun _ => rfl)) rfl rfl ?_
      first | refine TrL.op (ok_idxN rfl (fun _ => rfl) rfl (fun _ => rfl) rfl (fun _ => by omega)) rfl rfl ?_ | refine TrL.op (ok_idxP rfl (fun _ => rfl) rfl (fun _ => rfl) rfl (fun _ => by omega)) rfl rfl ?_
      refine TrL.op (ok_ldP rfl (fun _ => rfl) rfl) rfl rfl ?_
      refine TrL.op (ok_assign rfl (fun _ => rfl)) rfl rfl ?_
      refine TrL.op (ok_assign rfl (fun _ => rfl)) rfl rfl ?_
      refine TrL.fin ?_
      refine End.nxt ?_
      refine Tr.rg ?_
      have hlx := hlk (by omega)
      refine TrL.op (ok_move rfl (fun _ => rfl)) rfl rfl ?_
      refine TrL.op (ok_move rfl (fun _ => rfl)) rfl rfl ?_
      refine TrL.op (ok_fldO rfl (fun _ => rfl)) rfl rfl ?_
      refine TrL.op (ok_ldB rfl (fun _ => rfl) rfl) rfl rfl ?_
      refine TrL.op (ok_move rfl (fun _ => rfl)) rfl rfl ?_
      first | refine TrL.op (ok_idxN rfl (fun _ => rfl) rfl (fun _ => rfl) rfl (fun _ => by omega)) rfl rfl ?_ | refine TrL.op (ok_idxP rfl (fun _ => rfl) rfl (fun _ => rfl) rfl (fun _ => by omega)) rfl rfl ?_
      refine TrL.op (ok_ldP rfl (fun _ => rfl) rfl) rfl rfl ?_
      first | refine TrL.op (ok_idxEN rfl (fun _ => rfl) rfl (fun _ => rfl) (fun _ => by omega)) rfl rfl ?_ | refine TrL.op (ok_idxE rfl (fun _ => rfl) rfl (fun _ => rfl) (fun _ => by omega)) rfl rfl ?_
      refine TrL.stE rfl rfl rfl rfl rfl ?_
      refine TrL.fin ?_
      refine End.blk ?_
      refine End.nxt ?_
      refine Tr.rg ?_
      refine TrL.op (ok_add rfl (fun _ => rfl) rfl (fun _ => rfl) (fun _ => by omega)) rfl rfl ?_
      refine TrL.op (ok_move rfl (fun _ => rfl)) rfl rfl ?_
      refine TrL.fin ?_
      exact End.lp (k + 1) (by first | rfl | omega | (simp; done) | (simp; omega) | assumption) (by omega) (Ent.mk (.i rfl (by first | rfl | omega | (simp; done) | (simp; omega) | assumption) <| .k rfl rfl <| .k rfl rfl <| .k rfl rfl <| .k rfl rfl <| .nil) (.a (by rw [← fillTo_succ]) (by first | rfl | omega | (simp; done) | (simp; omega) | assumption) <| .k rfl <| .nil) rfl)
    · intro h3
      replace h3 := Int.not_lt.1 (of_decide_eq_false h3)
      refine Tr.exit ?_
      refine Exs.thn ?_
      refine Exs.thn ?_
      refine Exs.here ?_
      exact End.cut (k) (by omega) (Ent.mk (.i rfl (by first | rfl | omega | (simp; done) | (simp; omega) | assumption) <| .k rfl rfl <| .k rfl rfl <| .k rfl rfl <| .k rfl rfl <| .nil) (.a (by first | rfl | omega | (simp; done) | (simp; omega) | assumption) (by first | rfl | omega | (simp; done) | (simp; omega) | assumption) <| .k rfl <| .nil) rfl)
  · rintro _ rfl
    refine End.norm (S' := [⟨13, true, _, _⟩, ⟨2, true, _, _⟩, ⟨5, true, _, _⟩, ⟨11, true, _, _⟩, ⟨12, true, _, _⟩]) (M' := [⟨10, _, _⟩, ⟨2, _, _⟩]) rfl rfl ?_
    refine End.nxt ?_
    refine Tr.seq ?_
    refine Tr.rg ?_
    refine TrL.op (ok_move rfl (fun _ => rfl)) rfl rfl ?_
    refine TrL.op (ok_assign rfl (fun _ => rfl)) rfl rfl ?_
    refine TrL.fin ?_
    refine End.nxt ?_
    refine Tr.frz 10 [4] ⟨rfl, trivial⟩ (by simp only [lenMax]; omega) rfl ?_
    refine Tr.ret ?_
    exact Rts.res1 (fn := Tryz.f47) rfl (.r rfl (fillTo_all.trans rfl) <| .nil)

set_option maxRecDepth 100000 in
theorem ct_slMin (l : List Int) (h0 : 0 < l.length) : Ct Tryz.prog 49 [kRd (eL eI) l] (kI (mnK l l.length)) := by
  refine Ct.mk Tryz.func49 rfl Tryz.ntmps49 rfl (fun w J => ?_)
  refine Tr.fact (s := 0) rfl (fun _ _ h => lenB h) (fun hb => ?_)
  refine Tr.seq ?_
  refine Tr.rg ?_
  refine TrL.op (ok_assign rfl (fun _ => rfl)) rfl rfl ?_
  refine TrL.fin ?_
  refine End.nxt ?_
  refine Tr.seq ?_
  refine Tr.seq ?_
  refine Tr.rg ?_
  refine TrL.op (ok_move rfl (fun _ => rfl)) rfl rfl ?_
  refine TrL.op (ok_lenJ rfl (fun _ => rfl)) rfl rfl ?_
  refine TrL.op (ok_lss rfl (fun _ => rfl) rfl (fun _ => rfl)) rfl rfl ?_
  refine TrL.fin ?_
  refine End.nxt ?_
  refine Tr.cnd rfl ?_ ?_
  · intro h1
    replace h1 := of_decide_eq_true h1
    omega
  · intro h1
    replace h1 := Int.not_lt.1 (of_decide_eq_false h1)
    refine Tr.skip ?_
    refine End.nxt ?_
    refine Tr.seq ?_
    refine Tr.rg ?_
    refine TrL.op (ok_move rfl (fun _ => rfl)) rfl rfl ?_
    first | refine TrL.op (ok_idxN rfl (fun _ => rfl) rfl (fun _ => rfl) rfl (fun _ => by omega)) rfl rfl ?_ | refine TrL.op (ok_idxP rfl (fun _ => rfl) rfl (fun _ => rfl) rfl (fun _ => by omega)) rfl rfl ?_
    refine TrL.op (ok_ldP rfl (fun _ => rfl) rfl) rfl rfl ?_
    refine TrL.op (ok_assign rfl (fun _ => rfl)) rfl rfl ?_
    refine TrL.fin ?_
    refine End.nxt ?_
    refine Tr.seq ?_
    refine Tr.seq ?_
    refine Tr.rg ?_
    refine TrL.op (ok_assign rfl (fun _ => rfl)) rfl rfl ?_
    refine TrL.fin ?_
    refine End.nxt ?_
    refine Tr.for1 (σ := Nat) [⟨0, true, _, _⟩] [] (fun k => [⟨3, true, [], kI (mnK l k)⟩, ⟨4, true, [], kI (k : Int)⟩]) (fun k => []) (fun k => 1 ≤ k ∧ k ≤ l.length) (fun k => k = l.length) (fun k => l.length - k) (1) ⟨by omega, by omega⟩ (Ent.mk (.i rfl rfl <| .i rfl (by first | rfl | omega | (simp; done) | (simp; omega) | assumption) <| .k rfl rfl <| .nil) (.nil) rfl) ?_ ?_
    · rintro k ⟨hk1, hk⟩
      refine Tr.norm (S' := [⟨3, true, _, _⟩, ⟨4, true, _, _⟩, ⟨0, true, _, _⟩]) (M' := []) rfl rfl ?_
      refine Tr.seq ?_
      refine Tr.seq ?_
      refine Tr.rg ?_
      refine TrL.op (ok_move rfl (fun _ => rfl)) rfl rfl ?_
      refine TrL.op (ok_move rfl (fun _ => rfl)) rfl rfl ?_
      refine TrL.op (ok_lenJ rfl (fun _ => rfl)) rfl rfl ?_
      refine TrL.op (ok_lss rfl (fun _ => rfl) rfl (fun _ => rfl)) rfl rfl ?_
      refine TrL.fin ?_
      refine End.nxt ?_
      refine Tr.cnd rfl ?_ ?_
      · intro h5
        replace h5 := of_decide_eq_true h5
        refine Tr.skip ?_
        refine End.nxt ?_
        refine Tr.seq ?_
        refine Tr.blk ?_
        refine Tr.rg ?_
        refine TrL.op (ok_move rfl (fun _ => rfl)) rfl rfl ?_
        refine TrL.op (ok_move rfl (fun _ => rfl)) rfl rfl ?_
        refine TrL.op (ok_move rfl (fun _ => rfl)) rfl rfl ?_
        first | refine TrL.op (ok_idxN rfl (fun _ => rfl) rfl (fun _ => rfl) rfl (fun _ => by omega)) rfl rfl ?_ | refine TrL.op (ok_idxP rfl (fun _ => rfl) rfl (fun _ => rfl) rfl (fun _ => by omega)) rfl rfl ?_
        refine TrL.op (ok_ldP rfl (fun _ => rfl) rfl) rfl rfl ?_
        refine TrL.op (ok_min rfl (fun _ => rfl) rfl (fun _ => rfl)) rfl rfl ?_
        refine TrL.op (ok_assign rfl (fun _ => rfl)) rfl rfl ?_
        refine TrL.fin ?_
        refine End.blk ?_
        refine End.nxt ?_
        refine Tr.rg ?_
        refine TrL.op (ok_move rfl (fun _ => rfl)) rfl rfl ?_
        refine TrL.op (ok_add rfl (fun _ => rfl) rfl (fun _ => rfl) (fun _ => by omega)) rfl rfl ?_
        refine TrL.op (ok_assign rfl (fun _ => rfl)) rfl rfl ?_
        refine TrL.fin ?_
        exact End.lp (k + 1) ⟨by omega, by omega⟩ (by omega) (Ent.mk (.i rfl (mnK_succ hk1) <| .i rfl (by first | rfl | omega | (simp; done) | (simp; omega) | assumption) <| .k rfl rfl <| .nil) (.nil) rfl)
      · intro h5
        replace h5 := Int.not_lt.1 (of_decide_eq_false h5)
        refine Tr.exit ?_
        refine Exs.thn ?_
        refine Exs.thn ?_
        refine Exs.here ?_
        exact End.cut (k) (by omega) (Ent.mk (.i rfl (by first | rfl | omega | (simp; done) | (simp; omega) | assumption) <| .i rfl (by first | rfl | omega | (simp; done) | (simp; omega) | assumption) <| .k rfl rfl <| .nil) (.nil) rfl)
    · rintro _ rfl
      refine End.norm (S' := [⟨3, true, _, _⟩, ⟨4, true, _, _⟩, ⟨0, true, _, _⟩]) (M' := []) rfl rfl ?_
      refine End.nxt ?_
      refine Tr.seq ?_
      refine Tr.rg ?_
      refine TrL.op (ok_move rfl (fun _ => rfl)) rfl rfl ?_
      refine TrL.op (ok_assign rfl (fun _ => rfl)) rfl rfl ?_
      refine TrL.fin ?_
      refine End.nxt ?_
      refine Tr.ret ?_
      exact Rts.res1 (fn := Tryz.f49) rfl (.i rfl (by first | rfl | omega | (simp; done) | (simp; omega) | assumption) <| .nil)

end Go.Fl

/- Cylinders: rows one above another, how high a band grows, what the program makes of them. Plain Lean, no program in sight. -/
namespace Go.Fl
theorem mem_nth' {α : Type} [Inhabited α] {l : List α} {x : α} (h : x ∈ l) : ∃ i, i < l.length ∧ nth l i = x := by
  obtain ⟨i, hi, rfl⟩ := List.getElem_of_mem h
  exact ⟨i, hi, nth_of_get? (List.getElem?_eq_getElem hi)⟩
abbrev BandT : Type := Int × Int × List (List Int)
def rowU (o : Ori) (x : Int) (i : Nat) : List Int := orb o.1 (it o.2 i x)
def rowsT (o : Ori) (x : Int) (i : Nat) : List (List Int) := tab i (rowU o x)
def posR (o : Ori) (l : List Int) : Bool := l.any (posO o)
def stopB (o : Ori) (m : Bool) (S : List Int) (x : Int) (i : Nat) : Bool := (m || posR o (rowU o x i)) || decide (it o.2 i x ∈ S ++ (rowsT o x i).flatten)
def hF (o : Ori) (m : Bool) (S : List Int) (x : Int) : Nat → Nat → Nat
  | 0, i => i
  | f + 1, i => if stopB o m S x i = true then i else hF o m S x f (i + 1)
def hgt (o : Ori) (m : Bool) (S : List Int) (x : Int) : Nat := hF o m S x o.1.length 1
theorem rowsT_len {o : Ori} {x : Int} {i : Nat} : (rowsT o x i).length = i := tab_len
theorem rowsT_succ {o : Ori} {x : Int} {i : Nat} : rowsT o x (i + 1) = rowsT o x i ++ [rowU o x i] := tab_succ
theorem rowsT_flat {o : Ori} {x : Int} {i : Nat} : (rowsT o x (i + 1)).flatten = (rowsT o x i).flatten ++ rowU o x i := by rw [rowsT_succ]; simp
theorem hF_at {o : Ori} {m : Bool} {S : List Int} {x : Int} {i : Nat} (hs : stopB o m S x i = true) : ∀ {f a : Nat}, a ≤ i → i ≤ a + f → (∀ j, a ≤ j → j < i → stopB o m S x j = false) → hF o m S x f a = i
  | 0, a, h1, h2, _ => by unfold hF; omega
  | f + 1, a, h1, h2, h => by
    unfold hF
    by_cases e : a = i
    · subst e; rw [if_pos hs]
    · rw [if_neg (by rw [h a (Nat.le_refl _) (by omega)]; simp)]
      exact hF_at hs (by omega) (by omega) fun j hj hlt => h j (by omega) hlt
/-! ### 1. The row above -/
theorem posR_false {o : Ori} {l : List Int} (h : posR o l = false) {x : Int} (hx : x ∈ l) : ¬ 0 < ordF o x := fun hp => by
  have : posR o l = true := List.any_eq_true.2 ⟨x, hx, decide_eq_true hp⟩
  rw [h] at this; cases this
theorem posR_of {o : Ori} {l : List Int} (h : ∀ x ∈ l, ¬ 0 < ordF o x) : posR o l = false := by
  cases hb : posR o l with
  | false => rfl
  | true =>
    obtain ⟨x, h1, h2⟩ := List.any_eq_true.1 hb
    exact absurd (of_decide_eq_true h2) (h x h1)
theorem ord0_comm {o : Ori} (v : Valid o) {x : Int} (hx : Sq o.1.length x) (h : ¬ 0 < ordF o x) : ap (comm o) x = x := ordF_zero v hx (by have := ordF_nonneg v hx; omega)
theorem mem_abvL {o : Ori} (_ : Valid o) {l : List Int} {z : Int} : z ∈ abvL o l ↔ ∃ y ∈ l, z = ap o.2 y := by
  unfold abvL
  constructor
  · intro h
    obtain ⟨i, hi, rfl⟩ := mem_nth h
    rw [tab_len] at hi
    exact ⟨nth l i, nth_mem hi, nth_tab hi⟩
  · rintro ⟨y, hy, rfl⟩
    obtain ⟨i, hi, rfl⟩ := mem_nth hy
    have := nth_mem (xs := tab l.length fun k => nth o.2 (nth l k).toNat) (i := i) (by rw [tab_len]; exact hi)
    rwa [nth_tab hi] at this
theorem perF_congr {p : List Int} {x y : Int} (h : ∀ m, it p m x = x ↔ it p m y = y) : ∀ f m, perF p x f m = perF p y f m
  | 0, _ => rfl
  | f + 1, m => by
    unfold perF
    by_cases e : it p m x = x
    · rw [if_pos e, if_pos ((h m).1 e)]
    · rw [if_neg e, if_neg (fun k => e ((h m).2 k)), perF_congr h f (m + 1)]
theorem up_it {o : Ori} (v : Valid o) {x : Int} (hx : Sq o.1.length x) (h : posR o (abvL o (orb o.1 x)) = false) : ∀ i, it o.1 i (ap o.2 x) = ap o.2 (it o.1 i x)
  | 0 => rfl
  | i + 1 => by
    have hy := v.pR.its hx i
    have hy1 := v.pR.its hx (i + 1)
    have hz := v.pU.aps hy1
    have hm : ap o.2 (it o.1 (i + 1) x) ∈ abvL o (orb o.1 x) := (mem_abvL v).2 ⟨_, (v.pR.mem_orb hx).2 ⟨i + 1, rfl⟩, rfl⟩
    have hc := ord0_comm v hz (posR_false h hm)
    rw [comm_ap hz] at hc
    have hl := v.pR.inv.aps hz
    have h1 := v.pU.inj (v.pR.aps (v.pU.inv.aps hl)) hy1 hc
    have h2 : ap (invL o.2) (ap (invL o.1) (ap o.2 (it o.1 (i + 1) x))) = it o.1 i x := v.pR.inj (v.pU.inv.aps hl) hy h1
    have h3 : ap (invL o.1) (ap o.2 (it o.1 (i + 1) x)) = ap o.2 (it o.1 i x) := by rw [← h2, v.pU.ap_inv hl]
    show ap o.1 (it o.1 i (ap o.2 x)) = _
    rw [up_it v hx h i, ← h3, v.pR.ap_inv hz]
theorem per_up {o : Ori} (v : Valid o) {x : Int} (hx : Sq o.1.length x) (h : ∀ i, it o.1 i (ap o.2 x) = ap o.2 (it o.1 i x)) : per o.1 (ap o.2 x) = per o.1 x :=
  perF_congr (fun m => by rw [h m]; exact ⟨fun e => v.pU.inj (v.pR.its hx m) hx e, fun e => by rw [e]⟩) _ _
theorem abv_orb {o : Ori} (v : Valid o) {x : Int} (hx : Sq o.1.length x) (h : ∀ i, it o.1 i (ap o.2 x) = ap o.2 (it o.1 i x)) : abvL o (orb o.1 x) = orb o.1 (ap o.2 x) := by
  unfold abvL
  rw [orb_len]
  show _ = tab (per o.1 (ap o.2 x)) _
  rw [per_up v hx h]
  refine tab_congr fun i hi => ?_
  rw [h i, nth_orb hi]; rfl
theorem abv_row {o : Ori} (v : Valid o) {x : Int} (hx : Sq o.1.length x) (h : posR o (abvL o (orb o.1 x)) = false) : abvL o (orb o.1 x) = orb o.1 (ap o.2 x) := abv_orb v hx (up_it v hx h)
theorem up_it' {o : Ori} (v : Valid o) {x : Int} (hx : Sq o.1.length x) (h : posR o (orb o.1 (ap o.2 x)) = false) : ∀ i, it o.1 i (ap o.2 x) = ap o.2 (it o.1 i x)
  | 0 => rfl
  | i + 1 => by
    have ih := up_it' v hx h i
    have hux := v.pU.aps hx
    have hz := v.pR.its hux (i + 1)
    have hy := v.pR.its hx i
    have hc := ord0_comm v hz (posR_false h ((v.pR.mem_orb hux).2 ⟨i + 1, rfl⟩))
    rw [comm_ap hz] at hc
    have h1 : ap (invL o.1) (it o.1 (i + 1) (ap o.2 x)) = it o.1 i (ap o.2 x) := v.pR.inv_ap (v.pR.its hux i)
    rw [h1, ih, v.pU.inv_ap hy] at hc
    exact hc.symm
theorem abv_pos {o : Ori} (v : Valid o) {x : Int} (hx : Sq o.1.length x) : posR o (abvL o (orb o.1 x)) = posR o (orb o.1 (ap o.2 x)) := by
  cases h : posR o (abvL o (orb o.1 x)) with
  | false => rw [← abv_row v hx h, h]
  | true =>
    cases h2 : posR o (orb o.1 (ap o.2 x)) with
    | true => rfl
    | false => rw [abv_orb v hx (up_it' v hx h2), h2] at h; cases h
theorem rowU_next {o : Ori} (v : Valid o) {x : Int} (hx : Sq o.1.length x) {i : Nat} (h : posR o (abvL o (rowU o x i)) = false) : abvL o (rowU o x i) = rowU o x (i + 1) := abv_row v (v.pU.its hx i) h
theorem rowU_pos {o : Ori} (v : Valid o) {x : Int} (hx : Sq o.1.length x) {i : Nat} : posR o (abvL o (rowU o x i)) = posR o (rowU o x (i + 1)) := abv_pos v (v.pU.its hx i)
theorem rowU_per {o : Ori} (v : Valid o) {x : Int} (hx : Sq o.1.length x) {i : Nat} (h : posR o (rowU o x (i + 1)) = false) : (rowU o x (i + 1)).length = (rowU o x i).length := by
  rw [← rowU_next v hx (by rw [rowU_pos v hx]; exact h)]; exact tab_len
/-! ### 2. Rows that are new -/
def ClR (o : Ori) (S : List Int) : Prop := ∀ y, Sq o.1.length y → y ∈ S → ap o.1 y ∈ S
theorem ClR.it {o : Ori} {S : List Int} (v : Valid o) (h : ClR o S) {y : Int} (hy : Sq o.1.length y) (hm : y ∈ S) : ∀ i, Fl.it o.1 i y ∈ S
  | 0 => hm
  | i + 1 => h _ (v.pR.its hy i) (ClR.it v h hy hm i)
theorem ClR.orb {o : Ori} {S : List Int} (v : Valid o) (h : ClR o S) {y z : Int} (hy : Sq o.1.length y) (hz : z ∈ Fl.orb o.1 y) : z ∈ S ↔ y ∈ S := by
  have hzs := v.pR.orb_rng hy hz
  constructor
  · intro hm
    obtain ⟨i, e⟩ := (v.pR.mem_orb hzs).1 (v.pR.orb_symm hy hz)
    rw [e]; exact h.it v hzs hm i
  · intro hm
    obtain ⟨i, rfl⟩ := (v.pR.mem_orb hy).1 hz
    exact h.it v hy hm i
theorem row_new {o : Ori} (v : Valid o) {S : List Int} (hS : Good o.1.length S) (hc : ClR o S) {y : Int} (hy : Sq o.1.length y) (hm : y ∉ S) : Good o.1.length (S ++ orb o.1 y) ∧ ClR o (S ++ orb o.1 y) := by
  refine ⟨⟨List.nodup_append.2 ⟨hS.nodup, v.pR.orb_nodup hy, fun a ha b hb e => ?_⟩, fun x hx => ?_⟩, fun x hx hx2 => ?_⟩
  · subst e; exact hm ((hc.orb v hy hb).1 ha)
  · rcases List.mem_append.1 hx with h | h
    · exact hS.rng x h
    · exact v.pR.orb_rng hy h
  · rcases List.mem_append.1 hx2 with h | h
    · exact List.mem_append.2 (.inl (hc x hx h))
    · exact List.mem_append.2 (.inr (v.pR.orb_ap hy h))
/-- What has been seen, and a row that is new. -/
structure GS (o : Ori) (S : List Int) : Prop where
  v : Valid o
  g : Good o.1.length S
  c : ClR o S
theorem GS.nil {o : Ori} (v : Valid o) : GS o [] := ⟨v, Good.nil, fun _ _ h => by cases h⟩
theorem GS.row {o : Ori} {S : List Int} (h : GS o S) {y : Int} (hy : Sq o.1.length y) (hm : y ∉ S) : GS o (S ++ orb o.1 y) := ⟨h.v, (row_new h.v h.g h.c hy hm).1, (row_new h.v h.g h.c hy hm).2⟩
theorem stop_mem {o : Ori} {m : Bool} {S : List Int} {x : Int} {i : Nat} (h : stopB o m S x i = false) : it o.2 i x ∉ S ++ (rowsT o x i).flatten ∧ (m || posR o (rowU o x i)) = false := by
  unfold stopB at h
  rw [Bool.or_eq_false_iff] at h
  exact ⟨of_decide_eq_false h.2, h.1⟩
theorem GS.rows {o : Ori} {m : Bool} {S : List Int} {x : Int} (h : GS o S) (hx : Sq o.1.length x) (hm : x ∉ S) : ∀ {i : Nat}, (∀ j, 1 ≤ j → j < i → stopB o m S x j = false) → GS o (S ++ (rowsT o x i).flatten)
  | 0, _ => by simpa [rowsT, tab] using h
  | i + 1, hs => by
    have ih := GS.rows h hx hm (i := i) fun j h1 h2 => hs j h1 (by omega)
    rw [rowsT_flat, ← List.append_assoc]
    refine ih.row (h.v.pU.its hx i) ?_
    rcases Nat.eq_zero_or_pos i with rfl | hi
    · simpa [rowsT, tab, it] using hm
    · exact (stop_mem (hs i hi (by omega))).1
theorem rowU_lenpos {o : Ori} (v : Valid o) {x : Int} (hx : Sq o.1.length x) {i : Nat} : 0 < (rowU o x i).length := by
  unfold rowU; rw [orb_len]; exact (v.pR.pers (v.pU.its hx i)).2.1
theorem rows_many {o : Ori} (v : Valid o) {x : Int} (hx : Sq o.1.length x) : ∀ {i : Nat}, i ≤ (rowsT o x i).flatten.length
  | 0 => Nat.zero_le _
  | i + 1 => by
    have := rows_many v hx (i := i)
    have := rowU_lenpos v hx (i := i)
    rw [rowsT_flat, List.length_append]; omega
theorem GS.few {o : Ori} {m : Bool} {S : List Int} {x : Int} (h : GS o S) (hx : Sq o.1.length x) (hm : x ∉ S) {i : Nat} (hs : ∀ j, 1 ≤ j → j < i → stopB o m S x j = false) : i ≤ o.1.length ∧ S.length + (rowsT o x i).flatten.length ≤ o.1.length := by
  have h1 := (h.rows hx hm hs).g.len
  have h2 := rows_many h.v hx (i := i)
  rw [List.length_append] at h1
  omega
/-- Where it stops. -/
theorem GS.hgt {o : Ori} {m : Bool} {S : List Int} {x : Int} (h : GS o S) (hx : Sq o.1.length x) (hm : x ∉ S) {i : Nat} (h1 : 1 ≤ i) (hs : ∀ j, 1 ≤ j → j < i → stopB o m S x j = false) (hi : stopB o m S x i = true) : Fl.hgt o m S x = i :=
  hF_at hi h1 (by have := (h.few hx hm hs).1; omega) hs
theorem GS.stops {o : Ori} {m : Bool} {S : List Int} {x : Int} (h : GS o S) (hx : Sq o.1.length x) (hm : x ∉ S) : 1 ≤ Fl.hgt o m S x ∧ (∀ j, 1 ≤ j → j < Fl.hgt o m S x → stopB o m S x j = false) ∧ stopB o m S x (Fl.hgt o m S x) = true := by
  have key : ∀ f i, 1 ≤ i → i + f = o.1.length + 1 → (∀ j, 1 ≤ j → j < i → stopB o m S x j = false) → ∃ q, 1 ≤ q ∧ (∀ j, 1 ≤ j → j < q → stopB o m S x j = false) ∧ stopB o m S x q = true := by
    intro f
    induction f with
    | zero => intro i h1 h2 hs; have := (h.few hx hm hs).1; omega
    | succ f ih =>
      intro i h1 h2 hs
      cases hb : stopB o m S x i with
      | true => exact ⟨i, h1, hs, hb⟩
      | false =>
        refine ih (i + 1) (by omega) (by omega) fun j q1 q2 => ?_
        by_cases e : j = i
        · subst e; exact hb
        · exact hs j q1 (by omega)
  obtain ⟨q, h1, h2, h3⟩ := key o.1.length 1 (Nat.le_refl _) (by omega) fun j a b => by omega
  rw [h.hgt hx hm h1 h2 h3]; exact ⟨h1, h2, h3⟩
theorem GS.le {o : Ori} {m : Bool} {S : List Int} {x : Int} (h : GS o S) (hx : Sq o.1.length x) (hm : x ∉ S) : Fl.hgt o m S x ≤ o.1.length := (h.few hx hm (h.stops hx hm (m := m)).2.1).1
/-! ### 3. The program's bands -/
abbrev CySt := List Int × List BandT
def bandG (o : Ori) (m : Bool) (S : List Int) (x : Int) : BandT := ((per o.1 x : Int), ((hgt o m S x : Nat) : Int), rowsT o x (hgt o m S x))
def grw (o : Ori) (m : Bool) (st : CySt) (x : Int) : CySt := (st.1 ++ (rowsT o x (hgt o m st.1 x)).flatten, st.2 ++ [bandG o m st.1 x])
def cyR (o : Ori) : List (List Int) := cycs o.1 o.1.length
def ph1 (o : Ori) (m : Bool) : Nat → CySt
  | 0 => ([], [])
  | k + 1 => if (m || posR o (nth (cyR o) k)) = true then grw o m (ph1 o m k) (nth (nth (cyR o) k) 0) else ph1 o m k
def ph2 (o : Ori) (m : Bool) : Nat → CySt
  | 0 => ph1 o m (cyR o).length
  | k + 1 => if nth (nth (cyR o) k) 0 ∈ (ph2 o m k).1 then ph2 o m k else grw o m (ph2 o m k) (nth (nth (cyR o) k) 0)
theorem cyR_row {o : Ori} (v : Valid o) {k : Nat} (hk : k < (cyR o).length) : Sq o.1.length (nth (nth (cyR o) k) 0) ∧ nth (cyR o) k = orb o.1 (nth (nth (cyR o) k) 0) := by
  obtain ⟨j, h1, _, h3⟩ := v.pR.cycs_mem (Nat.le_refl _) (nth_mem hk)
  have hj : Sq o.1.length j := Sq.nat h1
  have h0 : nth (orb o.1 j) 0 = j := nth_orb (v.pR.pers hj).2.1
  have h3' : nth (cyR o) k = orb o.1 j := h3
  rw [h3', h0]; exact ⟨hj, rfl⟩
theorem cyR_uniq {o : Ori} (v : Valid o) {i k : Nat} (hi : i < (cyR o).length) (hk : k < (cyR o).length) {x : Int} (h1 : x ∈ nth (cyR o) i) (h2 : x ∈ nth (cyR o) k) : i = k :=
  row_uniq (by have := (cycs_good v.rR (Nat.le_refl _)).nodup; exact this) hi hk h1 h2
theorem cyR_has {o : Ori} (v : Valid o) {x : Int} (hx : Sq o.1.length x) : ∃ k, k < (cyR o).length ∧ x ∈ nth (cyR o) k := by
  have hm : x ∈ (cyR o).flatten := ((v.pR.cycsP (Nat.le_refl _)).1 x).2 ⟨x.toNat, by have := hx.1; have := hx.2; omega, by rw [Int.toNat_of_nonneg hx.1]; exact v.pR.orb_self hx⟩
  obtain ⟨l, h1, h2⟩ := List.mem_flatten.1 hm
  obtain ⟨k, hk, rfl⟩ := mem_nth' h1
  exact ⟨k, hk, h2⟩
end Go.Fl

/- Contracts: the least square of a band. -/
namespace Go.Fl
open Go Go.Proofs

def eBand : Enc BandT := eC (fun v : BandT => (v.1, v.2.1, v.2.2, ())) (eP eI (eP eI (eP (eL (eL eI)) eU)))
instance {v : BandT} : CellsK (kRd eBand v) [kI (v.1), kI (v.2.1), kRd (eL (eL eI)) (v.2.2)] := inferInstanceAs (CellsK (kRd (eC (fun v : BandT => (v.1, v.2.1, v.2.2, ())) (eP eI (eP eI (eP (eL (eL eI)) eU)))) v) _)
instance {v : BandT} {tl : List Know} : EncCells eBand v tl (kI (v.1) :: kI (v.2.1) :: kRd (eL (eL eI)) (v.2.2) :: tl) := inferInstanceAs (EncCells (eC (fun v : BandT => (v.1, v.2.1, v.2.2, ())) (eP eI (eP eI (eP (eL (eL eI)) eU)))) v tl _)
instance {v : BandT} : Norm eBand v (kRd eBand v) := ⟨fun h => h⟩
instance {v : BandT} : FieldP eBand v 0 eI (v.1) 0 := inferInstanceAs (FieldP (eC (fun v : BandT => (v.1, v.2.1, v.2.2, ())) (eP eI (eP eI (eP (eL (eL eI)) eU)))) v 0 _ _ _)
instance {v : BandT} : FieldP eBand v 1 eI (v.2.1) 1 := inferInstanceAs (FieldP (eC (fun v : BandT => (v.1, v.2.1, v.2.2, ())) (eP eI (eP eI (eP (eL (eL eI)) eU)))) v 1 _ _ _)
instance {v : BandT} : FieldP eBand v 2 (eL (eL eI)) (v.2.2) 2 := inferInstanceAs (FieldP (eC (fun v : BandT => (v.1, v.2.1, v.2.2, ())) (eP eI (eP eI (eP (eL (eL eI)) eU)))) v 2 _ _ _)
instance {ks r : List Know} {a b : Int} {l : List (List Int)} [h : RdOf ks (eP eI (eP eI (eP (eL (eL eI)) eU))) (a, b, l, ()) r] : RdOf ks eBand ((a, b, l)) r := ⟨fun h' => h.imp h'⟩
set_option maxRecDepth 100000 in
theorem ct_cyl3 (b : BandT) (h0 : 0 < b.2.2.length) (hl : ∀ l ∈ b.2.2, 0 < l.length) (hn : b.2.2.length ≤ 1000000) : Ct Tryz.prog 48 [kRd eBand b] (kI (lsB b.2.2)) := by
  have h00 := hl _ (nth_mem h0)
  refine Ct.mk Tryz.func48 rfl Tryz.ntmps48 rfl (fun w J => ?_)
  refine Tr.seq ?_
  refine Tr.rg ?_
  refine TrL.new (ok_box 1 rfl (fun _ => rfl) rfl) rfl rfl rfl rfl ?_
  refine TrL.op (ok_assign rfl (fun _ => rfl)) rfl rfl ?_
  refine TrL.fin ?_
  refine End.nxt ?_
  refine Tr.seq ?_
  refine Tr.rg ?_
  refine TrL.op (ok_fldO rfl (fun _ => rfl)) rfl rfl ?_
  refine TrL.op (ok_ldB rfl (fun _ => rfl) rfl) rfl rfl ?_
  first | refine TrL.op (ok_idxN rfl (fun _ => rfl) rfl (fun _ => rfl) rfl (fun _ => by omega)) rfl rfl ?_ | refine TrL.op (ok_idxP rfl (fun _ => rfl) rfl (fun _ => rfl) rfl (fun _ => by omega)) rfl rfl ?_
  refine TrL.op (ok_ldP rfl (fun _ => rfl) rfl) rfl rfl ?_
  first | refine TrL.op (ok_idxN rfl (fun _ => rfl) rfl (fun _ => rfl) rfl (fun _ => by omega)) rfl rfl ?_ | refine TrL.op (ok_idxP rfl (fun _ => rfl) rfl (fun _ => rfl) rfl (fun _ => by omega)) rfl rfl ?_
  refine TrL.op (ok_ldP rfl (fun _ => rfl) rfl) rfl rfl ?_
  refine TrL.op (ok_assign rfl (fun _ => rfl)) rfl rfl ?_
  refine TrL.fin ?_
  refine End.nxt ?_
  refine Tr.seq ?_
  refine Tr.seq ?_
  refine Tr.rg ?_
  refine TrL.op (ok_fldO rfl (fun _ => rfl)) rfl rfl ?_
  refine TrL.op (ok_ldB rfl (fun _ => rfl) rfl) rfl rfl ?_
  refine TrL.op (ok_lenJ rfl (fun _ => rfl)) rfl rfl ?_
  refine TrL.op (ok_move rfl (fun _ => rfl)) rfl rfl ?_
  refine TrL.fin ?_
  refine End.nxt ?_
  refine Tr.for1 (σ := Nat) [⟨13, true, _, _⟩, ⟨14, true, _, _⟩] [] (fun k => [⟨15, true, [], kI (k : Int)⟩, ⟨3, true, [], kI (lsK b.2.2 k)⟩]) (fun k => []) (fun k => k ≤ b.2.2.length) (fun k => k = b.2.2.length) (fun k => b.2.2.length - k) (0) (Nat.zero_le _) (Ent.mk (.i rfl (by first | rfl | omega | (simp; done) | (simp; omega) | assumption) <| .i rfl rfl <| .k rfl rfl <| .k rfl rfl <| .nil) (.nil) rfl) ?_ ?_
  · intro k hR0
    refine Tr.norm (S' := [⟨15, true, _, _⟩, ⟨3, true, _, _⟩, ⟨13, true, _, _⟩, ⟨14, true, _, _⟩]) (M' := []) rfl rfl ?_
    have hlk := fun (h : k < b.2.2.length) => hl _ (nth_mem h)
    refine Tr.seq ?_
    refine Tr.rg ?_
    refine TrL.op (ok_lss rfl (fun _ => rfl) rfl (fun _ => rfl)) rfl rfl ?_
    refine TrL.fin ?_
    refine End.nxt ?_
    refine Tr.seq ?_
    refine Tr.cnd rfl ?_ ?_
    · intro h3
      replace h3 := of_decide_eq_true h3
      refine Tr.skip ?_
      refine End.nxt ?_
      refine Tr.seq ?_
      refine Tr.blk ?_
      refine Tr.seq ?_
      refine Tr.rg ?_
      first | refine TrL.op (ok_idxN rfl (fun _ => rfl) rfl (fun _ => rfl) rfl (fun _ => by omega)) rfl rfl ?_ | refine TrL.op (ok_idxP rfl (fun _ => rfl) rfl (fun _ => rfl) rfl (fun _ => by omega)) rfl rfl ?_
      refine TrL.op (ok_ldP rfl (fun _ => rfl) rfl) rfl rfl ?_
      refine TrL.op (ok_assign rfl (fun _ => rfl)) rfl rfl ?_
      refine TrL.fin ?_
      refine End.nxt ?_
      refine Tr.rg ?_
      refine TrL.op (ok_move rfl (fun _ => rfl)) rfl rfl ?_
      refine TrL.op (ok_move rfl (fun _ => rfl)) rfl rfl ?_
      refine TrL.op (ok_call (fun hp => ct_slMin _ (hlk (by omega))) (.a rfl (fun _ => rfl) <| .nil)) rfl rfl ?_
      refine TrL.op (ok_min rfl (fun _ => rfl) rfl (fun _ => rfl)) rfl rfl ?_
      refine TrL.op (ok_assign rfl (fun _ => rfl)) rfl rfl ?_
      refine TrL.fin ?_
      refine End.blk ?_
      refine End.nxt ?_
      refine Tr.rg ?_
      refine TrL.op (ok_add rfl (fun _ => rfl) rfl (fun _ => rfl) (fun _ => by omega)) rfl rfl ?_
      refine TrL.op (ok_move rfl (fun _ => rfl)) rfl rfl ?_
      refine TrL.fin ?_
      exact End.lp (k + 1) (by first | rfl | omega | (simp; done) | (simp; omega) | assumption) (by omega) (Ent.mk (.i rfl (by first | rfl | omega | (simp; done) | (simp; omega) | assumption) <| .i rfl rfl <| .k rfl rfl <| .k rfl rfl <| .nil) (.nil) rfl)
    · intro h3
      replace h3 := Int.not_lt.1 (of_decide_eq_false h3)
      refine Tr.exit ?_
      refine Exs.thn ?_
      refine Exs.thn ?_
      refine Exs.here ?_
      exact End.cut (k) (by omega) (Ent.mk (.i rfl (by first | rfl | omega | (simp; done) | (simp; omega) | assumption) <| .i rfl (by first | rfl | omega | (simp; done) | (simp; omega) | assumption) <| .k rfl rfl <| .k rfl rfl <| .nil) (.nil) rfl)
  · rintro _ rfl
    refine End.norm (S' := [⟨15, true, _, _⟩, ⟨3, true, _, _⟩, ⟨13, true, _, _⟩, ⟨14, true, _, _⟩]) (M' := []) rfl rfl ?_
    refine End.nxt ?_
    refine Tr.seq ?_
    refine Tr.rg ?_
    refine TrL.op (ok_move rfl (fun _ => rfl)) rfl rfl ?_
    refine TrL.op (ok_assign rfl (fun _ => rfl)) rfl rfl ?_
    refine TrL.fin ?_
    refine End.nxt ?_
    refine Tr.ret ?_
    exact Rts.res1 (fn := Tryz.f48) rfl (.i rfl rfl <| .nil)

set_option maxRecDepth 100000 in
theorem ct_cyl4 (a b : BandT) (ha : (0 < a.2.2.length ∧ a.2.2.length ≤ 1000000) ∧ ∀ l ∈ a.2.2, 0 < l.length ∧ ∀ x ∈ l, 0 ≤ x ∧ x < 1000000) (hb : (0 < b.2.2.length ∧ b.2.2.length ≤ 1000000) ∧ ∀ l ∈ b.2.2, 0 < l.length ∧ ∀ x ∈ l, 0 ≤ x ∧ x < 1000000) : Ct Tryz.prog 51 [kRd eBand a, kRd eBand b, kPtr (eFn (kDet (.func (.func 48) #[] #[]))) ()] (kI (lsB a.2.2 - lsB b.2.2)) := by
  have sma : 0 ≤ lsB a.2.2 ∧ lsB a.2.2 < 1000000 := by obtain ⟨l, h1, h2⟩ := lsK_mem (fun l h => (ha.2 l h).1) ha.1.1 (Nat.le_refl _); exact (ha.2 l h1).2 _ h2
  have smb : 0 ≤ lsB b.2.2 ∧ lsB b.2.2 < 1000000 := by obtain ⟨l, h1, h2⟩ := lsK_mem (fun l h => (hb.2 l h).1) hb.1.1 (Nat.le_refl _); exact (hb.2 l h1).2 _ h2
  refine Ct.mk Tryz.func51 rfl Tryz.ntmps51 rfl (fun w J => ?_)
  refine Tr.seq ?_
  refine Tr.rg ?_
  refine TrL.new (ok_box 3 rfl (fun _ => rfl) rfl) rfl rfl rfl rfl ?_
  refine TrL.new (ok_box 4 rfl (fun _ => rfl) rfl) rfl rfl rfl rfl ?_
  refine TrL.op (ok_assign rfl (fun _ => rfl)) rfl rfl ?_
  refine TrL.fin ?_
  refine End.nxt ?_
  refine Tr.seq ?_
  refine Tr.draw 5 mixed (by kernel_rfl) ?_
  refine RunD.op (ok_ldP rfl (fun _ => rfl) rfl) rfl rfl ?_
  refine RunD.op (ok_ldBS rfl (fun _ => rfl)) rfl rfl ?_
  refine RunD.op (ok_callV rfl (fun _ => rfl) (fun hp => ct_cyl3 a ha.1.1 (fun l h => (ha.2 l h).1) ha.1.2) (.se rfl (fun _ => rfl) rfl rfl <| .nil)) rfl rfl ?_
  refine RunD.op (ok_ldP rfl (fun _ => rfl) rfl) rfl rfl ?_
  refine RunD.op (ok_ldBS rfl (fun _ => rfl)) rfl rfl ?_
  refine RunD.z ?_
  refine TrL.op (ok_callV rfl (fun _ => rfl) (fun hp => ct_cyl3 b hb.1.1 (fun l h => (hb.2 l h).1) hb.1.2) (.se rfl (fun _ => rfl) rfl rfl <| .nil)) rfl rfl ?_
  refine TrL.op (ok_sub rfl (fun _ => rfl) rfl (fun _ => rfl) (fun _ => by omega)) rfl rfl ?_
  refine TrL.op (ok_assign rfl (fun _ => rfl)) rfl rfl ?_
  refine TrL.fin ?_
  refine End.nxt ?_
  refine Tr.ret ?_
  exact Rts.res1 (fn := Tryz.f51) rfl (.i rfl (by first | rfl | omega | (simp; done) | (simp; omega) | assumption) <| .nil)

end Go.Fl

/- The end of a call that is gone through in place, with what the caller wants to know. No program in sight. -/
namespace Go.Fl
open Go Go.RowKit
section
variable {P : Program} {c : Ctx} {S : Slots} {M M' : Conts} {fn : Func} {keep : List Nat} {bks : Nat → Bk} {n : Nat}
theorem End.inlE (hr : fn.results = #[]) (he : Ent c S M (tagSlots n bks keep) M') (hk : KeptT (tagSlots n bks keep) n bks keep) : End c S M (bodyPost P fn (RetI c keep bks M' (kDet (.tuple #[])))) := by
  intro a g w hs
  obtain ⟨g', hs'⟩ := he a g w hs
  exact End.inl0 hr hk a g' w hs'
variable {p : Bool} {d : Option Tmp} {ty : TypeId} {pos : String} {af : Array Edge} {gd : Option (Nat × Bool)} {x : Operand} {b : Bool}
/-- A closure with immutable captured values is called by contract. -/
theorem ok_callK {f : FuncId} [hf : TyFn P f] {ks cks : List Know} {res : Know} {args : List Operand} {tys : Array TypeId} (hx : opK S x = some (b, kClo f cks)) (hb : p = true → b = true) [hj : AllJ cks] (hct : p = true → Ct P f (ks ++ cks) res) (hargs : ArgsOk S p args ks) [hk : KDep res []] :
    OpOk P c S M ⟨d, .call { callee := .value x, args := args.toArray, argTypes := tys }, ty, pos, af, gd⟩ p res none := by
  intro hp q g w hok hc ho _
  obtain ⟨cvs, hfv, hcs⟩ := ho x (by simp [Op.operands, Call.operands]) b _ hx (hb hp)
  have hvs := hargs.eval (g := g) (ρ := q.eval) hp (fun y hy b k hk hb => ho y (by simp [Op.operands, Call.operands, hy]) b k hk hb)
  have h1 : allK ⟨g.J, noM⟩ cks cvs := allK_sameJ (g := g) (g' := ⟨g.J, noM⟩) (JV.le_refl _) hj.all hcs
  have hr := hct hp w g.J hok.im _ (allK_app hvs h1)
  unfold Oper.wp
  simp only [execOp, resolve, hfv, Deferred.ofValue, Sem.run_bind, Sem.run_pure, Result.andThen_ok, invoke, List.map_toArray, List.append_toArray]
  rw [hf.run]
  simp only [Oper.upon]
  refine hr.mono fun e w' he => ?_
  obtain ⟨r, J', rfl, hbel, hJ, hold, him, hres⟩ := he
  exact ⟨r, _, rfl, Did.call hok hbel hJ hold him hres⟩
end
instance {f : Fn} {a b : Array Value} {r : List Know} : RdOf (kDet (.func f a b) :: r) (eFn (kDet (.func f a b))) () r := .fn
instance {f : FuncId} {ks : List Know} {r : List Know} [KDep (kClo f ks) []] : RdOf (kClo f ks :: r) (eFn (kClo f ks)) () r := .fn
end Go.Fl

/- slices.SortFunc at structs as a call that changes one block of the caller's own; the comparison is a closure with immutable captured values. No program in sight. -/
namespace Go.Fl
open Go Go.RowKit Go.Proofs Go.Shelf Go.Sort
theorem grow_of_below {w w' : World} (h : Fl.Below w.heap.size w w') : ∃ q os, w' = grow (w.drewN q) os := by
  refine ⟨w'.drawn - w.drawn, w'.heap.extract w.heap.size w'.heap.size, ?_⟩
  obtain ⟨h1, h2, h3, h4, h5, h6⟩ := h
  have hh : w'.heap = w.heap ++ w'.heap.extract w.heap.size w'.heap.size := by
    refine Array.ext (by simp; omega) fun i hi hi2 => ?_
    rw [Array.getElem_append]
    split
    · rename_i hlt
      have := h5 i hlt
      rw [Array.getElem?_eq_getElem hi, Array.getElem?_eq_getElem hlt] at this
      exact Option.some.inj this
    · rw [Array.getElem_extract]
      congr 1; omega
  have hd : w'.drawn = w.drawn + (w'.drawn - w.drawn) := by omega
  calc w' = ⟨w'.heap, w'.tape, w'.drawn, w'.os, w'.output⟩ := rfl
    _ = ⟨w.heap ++ w'.heap.extract w.heap.size w'.heap.size, w.tape, w.drawn + (w'.drawn - w.drawn), w.os, w.output⟩ := by rw [← hh, ← hd, h1, h2, h3]
    _ = _ := rfl
theorem swo_sub {α : Type} (f : α → Int) : SWO (ltOf fun a b : α => f a - f b) := ⟨fun x => by simp [ltOf], fun x y z h1 h2 => by simp only [ltOf, decide_eq_true_eq] at *; omega, fun x y z h1 h2 => by simp only [ltOf, decide_eq_false_iff_not] at *; omega⟩
theorem zipped {α : Type} {e : Enc α} {J : JV} {φ : α → Prop} {xs : List α} {cs : Array Value} (hφ : ∀ x ∈ xs, φ x)
    (h5 : ∀ (i : Nat) x, xs[i]? = some x → ∃ ds, e.rd J ds x ∧ ∀ (j : Nat) v, ds[j]? = some v → cs[i * e.n + j]? = some v) :
    ∀ k, k ≤ xs.length → ∃ d : List {p : List Value × α // e.rd J p.1 p.2 ∧ φ p.2}, d.length = k ∧ ∀ (i : Nat) p, d[i]? = some p → xs[i]? = some p.1.2 ∧ ∀ (j : Nat) v, p.1.1[j]? = some v → cs[i * e.n + j]? = some v
  | 0, _ => ⟨[], rfl, fun i p h => by simp at h⟩
  | k + 1, hk => by
    obtain ⟨d, h1, h2⟩ := zipped hφ h5 k (by omega)
    have hx : xs[k]? = some xs[k] := List.getElem?_eq_getElem (by omega)
    obtain ⟨ds, q1, q2⟩ := h5 k _ hx
    refine ⟨d ++ [⟨(ds, xs[k]), q1, hφ _ (List.getElem_mem _)⟩], by simp [h1], fun i p hp => ?_⟩
    by_cases hi : i < d.length
    · rw [List.getElem?_append_left hi] at hp
      exact h2 i p hp
    · rw [List.getElem?_append_right (by omega)] at hp
      have : i - d.length = 0 := Classical.byContradiction fun h => by
        rw [show i - d.length = (i - d.length - 1) + 1 by omega] at hp; simp at hp
      rw [this] at hp
      simp only [List.getElem?_cons_zero, Option.some.injEq] at hp
      subst hp
      obtain rfl : i = k := by omega
      exact ⟨hx, q2⟩
theorem flat_at {β : Type} [Inhabited β] {enc : β → List Value} {k : Nat} (_ : ∀ x, (enc x).length = k) {d : Array β} {i j : Nat} (hi : i < d.size) (hj : j < k) : (flatK enc k d)[i * k + j]! = (enc d[i]!)[j]! ∧ i * k + j < d.size * k := by
  have lt : i * k + j < d.size * k := by
    have := Nat.mul_le_mul_right k (show i + 1 ≤ d.size from hi); rw [Nat.add_mul, Nat.one_mul] at this; omega
  have e1 : (i * k + j) / k = i := by rw [Nat.mul_comm, Nat.mul_add_div (by omega), Nat.div_eq_of_lt hj]; omega
  have e2 : (i * k + j) % k = j := by rw [Nat.mul_comm, Nat.mul_add_mod, Nat.mod_eq_of_lt hj]
  rw [get_flatK _ _ _ _ lt, e1, e2]
  exact ⟨rfl, lt⟩
/-- slices.SortFunc at structs; the comparison keeps a contract. -/
theorem ctb_sortK {P : Program} {ρ : Ren} (L : SlLaysF0.n6 P ρ) {α : Type} (e : Enc α) (hagg : e.agg = true) (aE : ∀ w, (isAgg (ρ.t 24)).run P w = .ok true w) (zE : ∀ w, (Go.sizeOf (ρ.t 24)).run P w = .ok e.n w)
    (φ : α → Prop) (cf : α → α → Int) (hO : SWO (ltOf cf)) {g : FuncId} [hg : TyFn P g] {cks : List Know} [AllJ cks] (hct : ∀ a b, φ a → φ b → Ct P g ([kRd e a, kRd e b] ++ cks) (kI (cf a b)))
    {z : Bool} {ty : TypeId} {xs ys : List α} {len : Nat} (hlen : 0 < len) (hm : len ≤ 1000000) (hφ : ∀ x ∈ xs, φ x) (hys : ∀ l : List α, l.Perm xs → l.Pairwise (fun a b => ltOf cf b a = false) → l = ys) :
    CtB P (ρ.f 6) (kOsl 0 len) [kClo g cks] (cArr z ty e xs len) (cArr z ty e ys len) (kDet (.tuple #[])) := by
  intro w J b cap him hn hb hct0 v vs hv hvs
  obtain ⟨h0, hz, cs, h1, h2, h3, h4, h5⟩ := hct0
  match vs, hvs with
  | [], hvs => exact hvs.elim
  | _ :: _ :: _, hvs => exact hvs.2.elim
  | [u], hvs =>
    obtain ⟨cvs, rfl, hc⟩ := hvs.1
    rcases hv with ⟨hmm, _⟩ | ⟨b', cap', hmm, rfl⟩
    · simp [g1] at hmm
    · simp only [g1, if_true, Option.some.injEq, Bk.blk.injEq] at hmm
      obtain ⟨rfl, rfl⟩ := hmm
      obtain ⟨d, hd1, hd2⟩ := zipped (e := e) (J := J) hφ h5 xs.length (Nat.le_refl _)
      have hd0 : d ≠ [] := fun hh => by rw [hh] at hd1; simp at hd1; omega
      haveI : Inhabited {p : List Value × α // e.rd J p.1 p.2 ∧ φ p.2} := ⟨d.head hd0⟩
      have hk : ∀ x : {p : List Value × α // e.rd J p.1 p.2 ∧ φ p.2}, x.1.1.length = e.n := fun x => e.len x.2.1
      have hsz : d.toArray.size = len := by simp [hd1, h0]
      have hx1 : ∀ x : {p : List Value × α // e.rd J p.1 p.2 ∧ φ p.2}, ∀ v ∈ x.1.1, v.oneCell' = true := fun x => e.all1 x.2.1
      have hmap : d.map (fun p => p.1.2) = xs := by
        refine List.ext_getElem? fun i => ?_
        rw [List.getElem?_map]
        cases hi : d[i]? with
        | none =>
          have := List.getElem?_eq_none_iff.1 hi
          exact (List.getElem?_eq_none_iff.2 (by omega)).symm
        | some p => exact (hd2 i p hi).1.symm
      have hH : HoldsK (fun p : {p : List Value × α // e.rd J p.1 p.2 ∧ φ p.2} => p.1.1) e.n w b 0 d.toArray := by
        intro j hjlt
        rw [size_flatK] at hjlt
        have hn0 : 0 < e.n := Nat.pos_of_ne_zero fun hh => by rw [hh] at hjlt; omega
        have hi : j / e.n < d.toArray.size := Nat.div_lt_of_lt_mul (by rw [Nat.mul_comm]; exact hjlt)
        have hr := Nat.mod_lt j hn0
        obtain ⟨q1, q2⟩ := flat_at hk hi hr
        have hdm : j / e.n * e.n + j % e.n = j := by rw [Nat.mul_comm]; exact Nat.div_add_mod j e.n
        rw [hdm] at q1
        have hil : j / e.n < d.length := by simpa using hi
        have hg' : d[j / e.n]? = some d.toArray[j / e.n]! := by rw [List.getElem?_eq_getElem hil]; simp [hil]
        have hv' := (hd2 _ _ hg').2 (j % e.n) _ (List.getElem?_eq_getElem (show j % e.n < (d.toArray[j / e.n]!).1.1.length by rw [hk]; exact hr))
        rw [hdm] at hv'
        refine ⟨?_, by simp [World.frozen?, h1]⟩
        simp only [World.cell?, h1, Nat.zero_add, q1, id]
        simp only [Option.isSome_none, Bool.false_eq_true, if_false]
        rw [hv', getElem!_pos (d.toArray[j / e.n]!).1.1 (j % e.n) (show j % e.n < (d.toArray[j / e.n]!).1.1.length by rw [hk]; exact hr)]
      have hO' : SWO (ltOf fun x y : {p : List Value × α // e.rd J p.1 p.2 ∧ φ p.2} => cf x.1.2 y.1.2) := ⟨fun x => hO.irrefl x.1.2, fun x y z => hO.trans x.1.2 y.1.2 z.1.2, fun x y z => hO.ntrans x.1.2 y.1.2 z.1.2⟩
      have hcl : CmpLays P g cvs.toArray (fun p : {p : List Value × α // e.rd J p.1 p.2 ∧ φ p.2} => p.1.1) e.n (fun x y => cf x.1.2 y.1.2) b 0 d.toArray.size w := fun m os dk _ x y => by
        have him' : Im J (sortWorldK (fun p : {p : List Value × α // e.rd J p.1 p.2 ∧ φ p.2} => p.1.1) e.n w b 0 m dk os) := im_but (cap := cap) him hn (but_sorted (enc := id))
        have hcall := hct x.1.2 y.1.2 x.2.2 y.2.2 _ J him' ([.agg x.1.1.toArray, .agg y.1.1.toArray] ++ cvs) (allK_append (g := ⟨J, noM⟩) ⟨⟨_, x.2.1, by rw [hagg]; rfl⟩, ⟨_, y.2.1, by rw [hagg]; rfl⟩, trivial⟩ hc)
        rw [← List.append_toArray] at hcall
        refine hcall.mono fun e' w' he => ?_
        obtain ⟨r, J', rfl, hbel, _, _, _, hres⟩ := he
        have hres : r = .int .i64 (cf x.1.2 y.1.2) := hres
        exact ⟨by rw [hres], grow_of_below hbel⟩
      have hso := AnyQ.slices_SortFunc L e.n aE zE (fun p : {p : List Value × α // e.rd J p.1 p.2 ∧ φ p.2} => p.1.1) hk hx1 (fun x y => cf x.1.2 y.1.2) hO' g cvs.toArray b 0 cap d.toArray w (fun args w => hg.run args w) hcl hH hb (by omega)
      rw [hsz] at hso
      refine hso.mono fun e' w' ⟨he, d', n, os, hp, hs, hw⟩ => ?_
      subst hw
      obtain ⟨hp1, _, hp3⟩ := hp
      have hd' : d'.size = len := by rw [hp1]; exact hsz
      have hperm : d'.toList.Perm d := by
        have e1 : d'.extract 0 len = d' := by rw [← hd']; simp
        have e2 : d.toArray.extract 0 len = d.toArray := by rw [← hsz]; simp
        rw [e1, e2] at hp3; simpa using hp3
      have hys' : d'.toList.map (fun p => p.1.2) = ys := hys _ (by rw [← hmap]; exact hperm.map _) (by
        rw [List.pairwise_map, List.pairwise_iff_getElem]
        intro i j hi hj hij
        have hi' : i < d'.size := by simpa using hi
        have hj' : j < d'.size := by simpa using hj
        have := hs i j (Nat.zero_le _) hij (by omega)
        rw [getElem!_pos d' i hi', getElem!_pos d' j hj'] at this
        simpa [ltOf] using this)
      have hyl : ys.length = len := by rw [← hys']; simp [hd']
      refine ⟨_, J, he, but_sorted (enc := id), JV.le_refl _, fun _ _ _ => rfl, im_but (cap := cap) him hn (but_sorted (enc := id)), rfl, ?_⟩
      refine ⟨hyl, hz, _, heap_sorted (enc := id) _ h1, by simp [putCells, h2], h3, h4, fun i x hx => ?_⟩
      rw [← hys', List.getElem?_map] at hx
      have hil : i < d'.size := Classical.byContradiction fun hh => by
        rw [List.getElem?_eq_none_iff.2 (by simpa using hh)] at hx; simp at hx
      have hp' : d'.toList[i]? = some d'[i]! := by simp [hil]
      rw [hp'] at hx
      simp only [Option.map_some, Option.some.injEq] at hx
      subst hx
      refine ⟨_, d'[i]!.2.1, fun j v hv => ?_⟩
      have hjl := (List.getElem?_eq_some_iff.1 hv).1
      rw [hk] at hjl
      obtain ⟨q1, q2⟩ := flat_at hk hil hjl
      have hsz2 : i * e.n + j < cs.size := by
        rw [h2]
        have : (i + 1) * e.n ≤ cap * e.n := Nat.mul_le_mul_right _ (by omega)
        rw [Nat.add_mul, Nat.one_mul] at this; omega
      simp only [putCells, Array.getElem?_mapIdx, Array.getElem?_eq_getElem hsz2, Option.map_some, Nat.zero_le, true_and, Nat.zero_add, size_flatK, q2, if_true, Nat.sub_zero, q1, id]
      rw [getElem!_pos (d'[i]!).1.1 j (show j < (d'[i]!).1.1.length by rw [hk]; exact hjl)]
      exact hv ▸ (List.getElem?_eq_getElem _).symm
end Go.Fl

/- Cylinders: what holds of the program's bands; sorted by their least squares; their area. Plain Lean, no program in sight. -/
namespace Go.Fl
def flatB (l : List BandT) : List Int := (l.map fun b => b.2.2.flatten).flatten
theorem flatB_app {a b : List BandT} : flatB (a ++ b) = flatB a ++ flatB b := by simp [flatB]
theorem flatB_one {b : BandT} : flatB [b] = b.2.2.flatten := by simp [flatB]
structure BdOk (o : Ori) (m : Bool) (b : BandT) : Prop where
  ex : ∃ x h, Sq o.1.length x ∧ 1 ≤ h ∧ h ≤ o.1.length ∧ b = ((per o.1 x : Int), ((h : Nat) : Int), rowsT o x h) ∧ (rowsT o x h).flatten.length = h * per o.1 x
structure CyOk (o : Ori) (m : Bool) (st : CySt) : Prop where
  gs : GS o st.1
  flat : st.1 = flatB st.2
  ok : ∀ b ∈ st.2, BdOk o m b
theorem CyOk.nil {o : Ori} {m : Bool} (v : Valid o) : CyOk o m ([], []) := ⟨GS.nil v, rfl, fun _ h => by cases h⟩
theorem rows_per {o : Ori} {m : Bool} {S : List Int} {x : Int} (v : Valid o) (hx : Sq o.1.length x) : ∀ {i : Nat}, (∀ j, 1 ≤ j → j ≤ i → stopB o m S x j = false) → (rowU o x i).length = per o.1 x
  | 0, _ => by unfold rowU; rw [orb_len]; rfl
  | i + 1, h => by
    have h1 := (stop_mem (h (i + 1) (by omega) (Nat.le_refl _))).2
    rw [rowU_per v hx (Bool.or_eq_false_iff.1 h1).2]
    exact rows_per v hx fun j a b => h j a (by omega)
theorem rows_area {o : Ori} {m : Bool} {S : List Int} {x : Int} (v : Valid o) (hx : Sq o.1.length x) : ∀ {i : Nat}, (∀ j, 1 ≤ j → j < i → stopB o m S x j = false) → (rowsT o x i).flatten.length = i * per o.1 x
  | 0, _ => by simp [rowsT, tab]
  | i + 1, h => by
    rw [rowsT_flat, List.length_append, rows_area v hx (i := i) fun j a b => h j a (by omega), rows_per v hx (i := i) fun j a b => h j a (by omega), Nat.add_mul, Nat.one_mul]
theorem CyOk.grw {o : Ori} {m : Bool} {st : CySt} (h : CyOk o m st) {x : Int} (hx : Sq o.1.length x) (hm : x ∉ st.1) : CyOk o m (Fl.grw o m st x) := by
  obtain ⟨h1, h2, h3⟩ := h.gs.stops hx hm (m := m)
  refine ⟨h.gs.rows hx hm h2, ?_, fun b hb => ?_⟩
  · show st.1 ++ _ = flatB (st.2 ++ [_])
    rw [flatB_app, ← h.flat, flatB_one]; rfl
  · rcases List.mem_append.1 hb with hb | hb
    · exact h.ok b hb
    · rw [List.mem_singleton] at hb
      exact ⟨x, _, hx, h1, h.gs.le hx hm, hb, rows_area h.gs.v hx h2⟩
theorem mem_rows {o : Ori} {x y : Int} {h : Nat} : y ∈ (rowsT o x h).flatten ↔ ∃ i, i < h ∧ y ∈ rowU o x i := by
  rw [List.mem_flatten]
  constructor
  · rintro ⟨l, h1, h2⟩
    obtain ⟨i, hi, rfl⟩ := mem_nth' h1
    rw [rowsT_len] at hi
    exact ⟨i, hi, by rwa [rowsT, nth_tab hi] at h2⟩
  · rintro ⟨i, hi, h2⟩
    refine ⟨rowU o x i, ?_, h2⟩
    have := nth_mem (xs := rowsT o x h) (i := i) (by rw [rowsT_len]; exact hi)
    rwa [rowsT, nth_tab hi] at this
/-- The first pass. -/
theorem ph1_ok {o : Ori} {m : Bool} (v : Valid o) : ∀ {k : Nat}, k ≤ (cyR o).length → CyOk o m (ph1 o m k) ∧ ∀ j, k ≤ j → j < (cyR o).length → (m || posR o (nth (cyR o) j)) = true → nth (nth (cyR o) j) 0 ∉ (ph1 o m k).1
  | 0, _ => ⟨CyOk.nil v, fun _ _ _ _ h => by cases h⟩
  | k + 1, hk => by
    obtain ⟨ih1, ih2⟩ := ph1_ok v (k := k) (by omega)
    by_cases hb : (m || posR o (nth (cyR o) k)) = true
    · have e : ph1 o m (k + 1) = grw o m (ph1 o m k) (nth (nth (cyR o) k) 0) := if_pos hb
      obtain ⟨hx, hr⟩ := cyR_row v (k := k) (by omega)
      have hm := ih2 k (Nat.le_refl _) (by omega) hb
      rw [e]
      refine ⟨ih1.grw hx hm, fun j h1 h2 h3 hmem => ?_⟩
      obtain ⟨hxj, hrj⟩ := cyR_row v (k := j) h2
      rcases List.mem_append.1 hmem with hmem | hmem
      · exact ih2 j (by omega) h2 h3 hmem
      · obtain ⟨i, hi, hmem⟩ := mem_rows.1 hmem
        obtain ⟨_, q2, _⟩ := ih1.gs.stops hx hm (m := m)
        rcases Nat.eq_zero_or_pos i with rfl | hi0
        · have h4 : nth (nth (cyR o) j) 0 ∈ nth (cyR o) k := by rw [hr]; exact hmem
          have h5 : nth (nth (cyR o) j) 0 ∈ nth (cyR o) j := by
            have := v.pR.orb_self hxj
            rwa [← hrj] at this
          have := cyR_uniq v (by omega) h2 h4 h5
          omega
        · have hf := (stop_mem (q2 i hi0 hi)).2
          rw [Bool.or_eq_false_iff] at hf
          rw [hf.1, Bool.false_or] at h3
          obtain ⟨z, hz, hp⟩ := List.any_eq_true.1 h3
          have hz' : z ∈ orb o.1 (nth (nth (cyR o) j) 0) := by rw [← hrj]; exact hz
          exact posR_false hf.2 (v.pR.orb_trans (v.pU.its hx i) hmem hz') (of_decide_eq_true hp)
    · have e : ph1 o m (k + 1) = ph1 o m k := if_neg hb
      rw [e]
      exact ⟨ih1, fun j h1 h2 h3 => ih2 j (by omega) h2 h3⟩
theorem ph1_new {o : Ori} {m : Bool} (v : Valid o) {k : Nat} (hk : k < (cyR o).length) (hb : (m || posR o (nth (cyR o) k)) = true) : nth (nth (cyR o) k) 0 ∉ (ph1 o m k).1 := (ph1_ok v (by omega)).2 k (Nat.le_refl _) hk hb
theorem grw_head {o : Ori} {m : Bool} {st : CySt} (h : CyOk o m st) {x : Int} (hx : Sq o.1.length x) (hm : x ∉ st.1) : x ∈ (grw o m st x).1 :=
  List.mem_append.2 (.inr (mem_rows.2 ⟨0, (h.gs.stops hx hm (m := m)).1, h.gs.v.pR.orb_self hx⟩))
/-- The second pass. -/
theorem ph2_ok {o : Ori} {m : Bool} (v : Valid o) : ∀ {k : Nat}, k ≤ (cyR o).length → CyOk o m (ph2 o m k) ∧ ∀ j, j < k → nth (nth (cyR o) j) 0 ∈ (ph2 o m k).1
  | 0, _ => ⟨(ph1_ok v (Nat.le_refl _)).1, fun _ h => absurd h (by omega)⟩
  | k + 1, hk => by
    obtain ⟨ih1, ih2⟩ := ph2_ok v (m := m) (k := k) (by omega)
    obtain ⟨hx, _⟩ := cyR_row v (k := k) (by omega)
    by_cases hm : nth (nth (cyR o) k) 0 ∈ (ph2 o m k).1
    · have e : ph2 o m (k + 1) = ph2 o m k := if_pos hm
      rw [e]
      exact ⟨ih1, fun j hj => by
        by_cases e : j = k
        · subst e; exact hm
        · exact ih2 j (by omega)⟩
    · have e : ph2 o m (k + 1) = grw o m (ph2 o m k) (nth (nth (cyR o) k) 0) := if_neg hm
      rw [e]
      exact ⟨ih1.grw hx hm, fun j hj => by
        by_cases e : j = k
        · subst e; exact grw_head ih1 hx hm
        · exact List.mem_append.2 (.inl (ih2 j (by omega)))⟩
def phE (o : Ori) (m : Bool) : CySt := ph2 o m (cyR o).length
theorem phE_all {o : Ori} {m : Bool} (v : Valid o) {x : Int} (hx : Sq o.1.length x) : x ∈ (phE o m).1 := by
  obtain ⟨h1, h2⟩ := ph2_ok v (m := m) (Nat.le_refl _)
  obtain ⟨k, hk, hm⟩ := cyR_has v hx
  obtain ⟨hy, hr⟩ := cyR_row v hk
  rw [hr] at hm
  exact (h1.gs.c.orb v hy hm).2 (h2 k hk)
theorem phE_len {o : Ori} {m : Bool} (v : Valid o) : (phE o m).1.length = o.1.length := by
  have h1 := (ph2_ok v (m := m) (Nat.le_refl _)).1.gs.g
  have hp : (phE o m).1.Perm (sqs o.1.length) := (List.perm_ext_iff_of_nodup h1.nodup (nodup_of_lt sqs_lt)).2 fun x => ⟨fun h => mem_sqs.2 (h1.rng x h), fun h => phE_all v (mem_sqs.1 h)⟩
  rw [hp.length_eq, sqs, tab_len]
theorem BdOk.pos {o : Ori} {m : Bool} (v : Valid o) {b : BandT} (h : BdOk o m b) : 0 < b.2.2.flatten.length ∧ (0 < b.2.2.length ∧ b.2.2.length ≤ 1000000) ∧ ∀ l ∈ b.2.2, 0 < l.length ∧ ∀ x ∈ l, 0 ≤ x ∧ x < 1000000 := by
  obtain ⟨x, q, hx, h1, h2, rfl, h3⟩ := h.ex
  have hn := v.l1
  have hp := (v.pR.pers hx).2.1
  refine ⟨?_, ⟨by show 0 < (rowsT o x q).length; rw [rowsT_len]; omega, by show (rowsT o x q).length ≤ _; rw [rowsT_len]; omega⟩, fun l hl => ?_⟩
  · show 0 < (rowsT o x q).flatten.length
    rw [h3]; exact Nat.mul_pos (by omega) hp
  · obtain ⟨i, hi, rfl⟩ := mem_nth' hl
    have hi' : i < q := by have := hi; rwa [show ((per o.1 x : Int), ((q : Nat) : Int), rowsT o x q).2.2 = rowsT o x q from rfl, rowsT_len] at this
    have e : nth (rowsT o x q) i = rowU o x i := nth_tab hi'
    show 0 < (nth (rowsT o x q) i).length ∧ ∀ y ∈ nth (rowsT o x q) i, _
    rw [e]
    exact ⟨rowU_lenpos v hx, fun y hy => by
      have := v.pR.orb_rng (v.pU.its hx i) hy
      have h1 := this.1
      have h2 := this.2
      omega⟩
theorem flatB_many {o : Ori} {m : Bool} (v : Valid o) : ∀ {l : List BandT}, (∀ b ∈ l, BdOk o m b) → l.length ≤ (flatB l).length
  | [], _ => Nat.zero_le _
  | b :: l, h => by
    have ih := flatB_many v (l := l) fun b hb => h b (List.mem_cons_of_mem _ hb)
    have h1 := ((h b List.mem_cons_self).pos v).1
    have e : flatB (b :: l) = b.2.2.flatten ++ flatB l := by simp [flatB]
    rw [e, List.length_append, List.length_cons]; omega
theorem CyOk.len {o : Ori} {m : Bool} {st : CySt} (h : CyOk o m st) : st.2.length ≤ st.1.length ∧ st.1.length ≤ o.1.length := ⟨by have := flatB_many h.gs.v h.ok; rwa [← h.flat] at this, h.gs.g.len⟩
theorem phE_pos {o : Ori} {m : Bool} (v : Valid o) : 0 < (phE o m).2.length ∧ (phE o m).2.length ≤ o.1.length := by
  have h := (ph2_ok v (m := m) (Nat.le_refl _)).1
  have h1 := h.len
  have h2 : (phE o m).1.length = o.1.length := phE_len v
  refine ⟨Nat.pos_of_ne_zero fun e => ?_, Nat.le_trans h1.1 h1.2⟩
  have e' : (phE o m).2 = [] := List.eq_nil_of_length_eq_zero e
  have h3 := h.flat
  have h3' : (phE o m).1 = flatB (phE o m).2 := h3
  rw [e'] at h3'
  have := v.pos
  rw [h3'] at h2
  simp [flatB] at h2
  omega
/-! ### Sorted by the least square -/
abbrev keyB (b : BandT) : Int := lsB b.2.2
def srtB (l : List BandT) : List BandT := l.mergeSort fun a b => decide (keyB a ≤ keyB b)
theorem key_mem {o : Ori} {m : Bool} (v : Valid o) {b : BandT} (h : BdOk o m b) : keyB b ∈ b.2.2.flatten := by
  have hp := (h.pos v).2
  obtain ⟨l, h1, h2⟩ := lsK_mem (fun l h => (hp.2 l h).1) hp.1.1 (Nat.le_refl _)
  exact List.mem_flatten.2 ⟨l, h1, h2⟩
theorem flat_uniq {α β : Type} {f : α → List β} : ∀ {l : List α}, (l.map f).flatten.Nodup → ∀ {a b : α}, a ∈ l → b ∈ l → ∀ {x : β}, x ∈ f a → x ∈ f b → a = b
  | [], _, _, _, h, _, _, _, _ => by cases h
  | c :: l, hn, a, b, ha, hb, x, h1, h2 => by
    simp only [List.map_cons, List.flatten_cons] at hn
    obtain ⟨_, n2, n3⟩ := List.nodup_append.1 hn
    have hin : ∀ d ∈ l, x ∈ f d → x ∈ (l.map f).flatten := fun d hd hx => List.mem_flatten.2 ⟨f d, List.mem_map.2 ⟨d, hd, rfl⟩, hx⟩
    rcases List.mem_cons.1 ha with ea | qa
    · rcases List.mem_cons.1 hb with eb | qb
      · rw [ea, eb]
      · subst ea; exact absurd rfl (n3 _ h1 _ (hin _ qb h2))
    · rcases List.mem_cons.1 hb with eb | qb
      · subst eb; exact absurd rfl (n3 _ h2 _ (hin _ qa h1))
      · exact flat_uniq n2 qa qb h1 h2
theorem CyOk.keys {o : Ori} {m : Bool} {st : CySt} (h : CyOk o m st) {a b : BandT} (ha : a ∈ st.2) (hb : b ∈ st.2) (e : keyB a = keyB b) : a = b := by
  have hn : (st.2.map fun b : BandT => b.2.2.flatten).flatten.Nodup := by have := h.gs.g.nodup; rwa [h.flat] at this
  exact flat_uniq hn ha hb (key_mem h.gs.v (h.ok a ha)) (by rw [e]; exact key_mem h.gs.v (h.ok b hb))
theorem CyOk.sorted {o : Ori} {m : Bool} {st : CySt} (h : CyOk o m st) {l l' : List BandT} (hp : l.Perm st.2) (hp' : l'.Perm st.2) (hs : l.Pairwise fun a b => keyB a ≤ keyB b) (hs' : l'.Pairwise fun a b => keyB a ≤ keyB b) : l = l' :=
  (hp.trans hp'.symm).eq_of_pairwise (le := fun a b => keyB a ≤ keyB b) (fun _ _ ha hb h1 h2 => h.keys (hp.mem_iff.1 ha) (hp'.mem_iff.1 hb) (Int.le_antisymm h1 h2)) hs hs'
theorem srtB_pw {l : List BandT} : (srtB l).Pairwise fun a b => keyB a ≤ keyB b := by
  have := List.pairwise_mergeSort (le := fun a b : BandT => decide (keyB a ≤ keyB b)) (fun a b c h1 h2 => by simp only [decide_eq_true_eq] at *; omega) (fun a b => by simp only [Bool.or_eq_true, decide_eq_true_eq]; omega) l
  exact this.imp fun h => of_decide_eq_true h
theorem CyOk.srt {o : Ori} {m : Bool} {st : CySt} (h : CyOk o m st) {l : List BandT} (hp : l.Perm st.2) (hs : l.Pairwise fun a b => decide (keyB b - keyB a < 0) = false) : l = srtB st.2 :=
  h.sorted hp (List.mergeSort_perm _ _) (hs.imp fun h => by have := of_decide_eq_false h; omega) srtB_pw
def cylL (o : Ori) (m : Bool) : List BandT := srtB (phE o m).2
theorem cylL_perm {o : Ori} {m : Bool} : (cylL o m).Perm (phE o m).2 := List.mergeSort_perm _ _
theorem cylL_len {o : Ori} {m : Bool} : (cylL o m).length = (phE o m).2.length := cylL_perm.length_eq
/-! ### The area -/
def areaT (l : List BandT) (k : Nat) : Int := sumTo (fun i => (nth l i).1 * (nth l i).2.1) k
def areaS : List BandT → Int
  | [] => 0
  | b :: l => b.1 * b.2.1 + areaS l
end Go.Fl

/- Cylinders: what the walk leans on. Plain Lean, no program in sight. -/
namespace Go.Fl
theorem any_congr' {α : Type} {f g : α → Bool} : ∀ {l : List α}, (∀ x ∈ l, f x = g x) → l.any f = l.any g
  | [], _ => rfl
  | a :: l, h => by
    rw [List.any_cons, List.any_cons, h a List.mem_cons_self, any_congr' fun x hx => h x (List.mem_cons_of_mem _ hx)]
theorem bnd_ord {o : Ori} (v : Valid o) {l : List Int} (h : ∀ x ∈ l, Sq o.1.length x) : (l.any fun y => decide (0 < nth (ordV o) y.toNat)) = posR o l :=
  any_congr' fun x hx => by rw [nth_ordV v (h x hx)]; rfl
theorem abv_sq {o : Ori} (v : Valid o) {l : List Int} (h : ∀ x ∈ l, Sq o.1.length x) : ∀ x ∈ abvL o l, Sq o.1.length x := fun x hx => by
  obtain ⟨y, hy, rfl⟩ := (mem_abvL v).1 hx
  exact v.pU.aps (h y hy)
theorem rowU_sq {o : Ori} (v : Valid o) {x : Int} (hx : Sq o.1.length x) {i : Nat} : ∀ y ∈ rowU o x i, Sq o.1.length y := fun _ hy => v.pR.orb_rng (v.pU.its hx i) hy
theorem bnd_row {o : Ori} (v : Valid o) {m : Bool} {x : Int} (hx : Sq o.1.length x) {i : Nat} : (m || (abvL o (rowU o x i)).any fun y => decide (0 < nth (ordV o) y.toNat)) = (m || posR o (rowU o x (i + 1))) := by
  rw [bnd_ord v (abv_sq v (rowU_sq v hx)), rowU_pos v hx]
theorem bnd_cyc {o : Ori} (v : Valid o) {m : Bool} {k : Nat} (hk : k < (cyR o).length) : (m || (nth (cyR o) k).any fun y => decide (0 < nth (ordV o) y.toNat)) = (m || posR o (nth (cyR o) k)) := by
  obtain ⟨hx, hr⟩ := cyR_row v hk
  rw [bnd_ord v]
  rw [hr]; exact fun y hy => v.pR.orb_rng hx hy
theorem rowU_head {o : Ori} (v : Valid o) {x : Int} (hx : Sq o.1.length x) {i : Nat} : nth (rowU o x i) 0 = it o.2 i x := nth_orb (v.pR.pers (v.pU.its hx i)).2.1
theorem rowU_le {o : Ori} (v : Valid o) {x : Int} (hx : Sq o.1.length x) {i : Nat} : (rowU o x i).length ≤ o.1.length := by
  unfold rowU; rw [orb_len]; exact (v.pR.pers (v.pU.its hx i)).2.2.1
theorem GS.end0 {o : Ori} {m : Bool} {S : List Int} {x : Int} (h : GS o S) (hx : Sq o.1.length x) (hm : x ∉ S) {i : Nat} (hs : ∀ j, 1 ≤ j → j < i → stopB o m S x j = false) (hi : it o.2 i x ∈ S ++ (rowsT o x i).flatten) : i = Fl.hgt o m S x := by
  rcases Nat.eq_zero_or_pos i with rfl | h0
  · exact absurd (by simpa [rowsT, tab, it] using hi) hm
  · exact (h.hgt hx hm h0 hs (by unfold stopB; rw [decide_eq_true hi, Bool.or_true])).symm
theorem GS.step {o : Ori} {m : Bool} {S : List Int} {x : Int} {i : Nat} (hs : ∀ j, 1 ≤ j → j < i → stopB o m S x j = false) (hb : 0 < i → (m || posR o (rowU o x i)) = false) (hi : it o.2 i x ∉ S ++ (rowsT o x i).flatten) : ∀ j, 1 ≤ j → j < i + 1 → stopB o m S x j = false := fun j h1 h2 => by
  by_cases e : j = i
  · subst e; unfold stopB; rw [decide_eq_false hi, Bool.or_false, hb h1]
  · exact hs j h1 (by omega)
theorem GS.end1 {o : Ori} {m : Bool} {S : List Int} {x : Int} (h : GS o S) (hx : Sq o.1.length x) (hm : x ∉ S) {i : Nat} (hs : ∀ j, 1 ≤ j → j < i + 1 → stopB o m S x j = false) (hb : (m || posR o (rowU o x (i + 1))) = true) : i + 1 = Fl.hgt o m S x :=
  (h.hgt hx hm (by omega) hs (by unfold stopB; rw [hb, Bool.true_or])).symm
theorem ph1_in {o : Ori} {m : Bool} {k : Nat} (h : (m || posR o (nth (cyR o) k)) = true) : ph1 o m (k + 1) = grw o m (ph1 o m k) (nth (nth (cyR o) k) 0) := if_pos h
theorem ph1_out {o : Ori} {m : Bool} {k : Nat} (h : (m || posR o (nth (cyR o) k)) = false) : ph1 o m (k + 1) = ph1 o m k := if_neg (by rw [h]; simp)
theorem ph2_in {o : Ori} {m : Bool} {k : Nat} (h : nth (nth (cyR o) k) 0 ∉ (ph2 o m k).1) : ph2 o m (k + 1) = grw o m (ph2 o m k) (nth (nth (cyR o) k) 0) := if_neg h
theorem ph2_out {o : Ori} {m : Bool} {k : Nat} (h : nth (nth (cyR o) k) 0 ∈ (ph2 o m k).1) : ph2 o m (k + 1) = ph2 o m k := if_pos h
theorem grw2 {o : Ori} {m : Bool} {st : CySt} {x : Int} : (grw o m st x).2.length = st.2.length + 1 := by unfold grw; rw [List.length_append]; rfl
theorem cyR_le {o : Ori} : (cyR o).length ≤ o.1.length := cycs_length
end Go.Fl

/- Contracts: the cylinders of the program. -/
namespace Go.Fl
open Go Go.Proofs


theorem ct_cyR (o : Ori) (v : Valid o) : Ct Tryz.prog 29 [kRd (eL eI) o.1] (kRd (eL (eL eI)) (cyR o)) := ct_cycles o.1 v.l1 v.rR


theorem ct_srtB (o : Ori) (m : Bool) (v : Valid o) {z : Bool} {ty : TypeId} : CtB Tryz.prog 50 (kOsl 0 (phE o m).2.length) [kClo 51 [kPtr (eFn (kDet (.func (.func 48) #[] #[]))) ()]] (cArr z ty eBand (phE o m).2 (phE o m).2.length) (cArr z ty eBand (cylL o m) (phE o m).2.length) (kDet (.tuple #[])) := by
  have h := (ph2_ok v (m := m) (Nat.le_refl _)).1
  have hp := phE_pos v (m := m)
  have hn := v.l1
  exact ctb_sortK Tryz.sortB eBand rfl (fun _ => by kernel_rfl) (fun _ => by kernel_rfl) (fun b => BdOk o m b) (fun a b => keyB a - keyB b) (swo_sub keyB) (fun a b ha hb => ct_cyl4 a b (ha.pos v).2 (hb.pos v).2) hp.1 (by omega) h.ok (fun l hl hs => h.srt hl hs)

set_option maxRecDepth 100000 in
set_option maxHeartbeats 2000000 in
theorem ct_oCylinders (o : Ori) (m : Bool) : Ct Tryz.prog 17 [kRd eO o, kB m] (kTup [kRd (eL eBand) (if chkO o = 0 then cylL o m else []), kI (chkO o)]) := by
  refine Ct.mk Tryz.func17 rfl Tryz.ntmps17 rfl (fun w J => ?_)
  refine Tr.seq ?_
  refine Tr.rg ?_
  refine TrL.new (ok_box 2 rfl (fun _ => rfl) rfl) rfl rfl rfl rfl ?_
  refine TrL.new (ok_box 3 rfl (fun _ => rfl) rfl) rfl rfl rfl rfl ?_
  refine TrL.op (ok_assign rfl (fun _ => rfl)) rfl rfl ?_
  refine TrL.op (ok_assign rfl (fun _ => rfl)) rfl rfl ?_
  refine TrL.fin ?_
  refine End.nxt ?_
  refine Tr.seq ?_
  refine Tr.seq ?_
  refine Tr.rg ?_
  refine TrL.op (ok_ldBS rfl (fun _ => rfl)) rfl rfl ?_
  refine TrL.op (ok_call (fun hp => ct_oCheck _) (.s rfl (fun _ => rfl) rfl <| .nil)) rfl rfl ?_
  refine TrL.op (ok_assign rfl (fun _ => rfl)) rfl rfl ?_
  refine TrL.fin ?_
  refine End.nxt ?_
  refine Tr.seq ?_
  refine Tr.rg ?_
  refine TrL.op (ok_move rfl (fun _ => rfl)) rfl rfl ?_
  refine TrL.op (ok_neq rfl (fun _ => rfl) rfl (fun _ => rfl)) rfl rfl ?_
  refine TrL.fin ?_
  refine End.nxt ?_
  refine Tr.cnd rfl ?_ ?_
  · intro h2
    replace h2 := of_decide_eq_true h2
    refine Tr.seq ?_
    refine Tr.rg ?_
    refine TrL.op (ok_move rfl (fun _ => rfl)) rfl rfl ?_
    refine TrL.op (ok_assign rfl (fun _ => rfl)) rfl rfl ?_
    refine TrL.op (ok_assign rfl (fun _ => rfl)) rfl rfl ?_
    refine TrL.fin ?_
    refine End.nxt ?_
    refine Tr.ret ?_
    refine Rts.thn ?_
    exact Rts.res (fn := Tryz.f17) (ts := [4, 5]) rfl rfl (.n rfl (by rw [if_neg h2]) <| .i rfl (by first | rfl | omega | (simp; done) | (simp; omega) | assumption) <| .nil)
  · intro h2
    replace h2 := Classical.not_not.1 (of_decide_eq_false h2)
    have v : Valid o := valid_of h2
    have hv0 := v.pos
    have hv1 := v.len
    have hv2 := v.le
    have hoL : (ordV o).length = o.1.length := rowTo_len
    have hcl := cyR_le (o := o)
    refine Tr.skip ?_
    refine End.nxt ?_
    refine Tr.seq ?_
    refine Tr.rg ?_
    refine TrL.op (ok_ldBS rfl (fun _ => rfl)) rfl rfl ?_
    refine TrL.op (ok_call (fun hp => ct_orders _ v) (.s rfl (fun _ => rfl) rfl <| .nil)) rfl rfl ?_
    refine TrL.op (ok_move rfl (fun _ => rfl)) rfl rfl ?_
    refine TrL.op (ok_ext rfl (fun _ => rfl) rfl) rfl rfl ?_
    refine TrL.op (ok_ext rfl (fun _ => rfl) rfl) rfl rfl ?_
    refine TrL.new (ok_alloc 7) rfl rfl rfl rfl ?_
    refine TrL.stB rfl rfl rfl rfl ?_
    refine TrL.op (ok_assign rfl (fun _ => rfl)) rfl rfl ?_
    refine TrL.fin ?_
    refine End.nxt ?_
    refine Tr.seq ?_
    refine Tr.frzB 2 [2] eO ⟨rfl, trivial⟩ rfl ?_
    refine Tr.frzB 3 [3] eBool ⟨rfl, trivial⟩ rfl ?_
    refine Tr.frzB 7 [7] (eL eI) ⟨rfl, trivial⟩ rfl ?_
    refine Tr.norm (S' := [⟨_, _, _, _⟩, ⟨_, _, _, _⟩, ⟨_, _, _, _⟩, ⟨_, _, _, _⟩, ⟨_, _, _, _⟩, ⟨_, _, _, _⟩, ⟨_, _, _, _⟩, ⟨_, _, _, _⟩, ⟨_, _, _, _⟩, ⟨_, _, _, _⟩, ⟨_, _, _, _⟩, ⟨_, _, _, _⟩, ⟨_, _, _, _⟩, ⟨_, _, _, _⟩, ⟨_, _, _, _⟩, ⟨_, _, _, _⟩, ⟨_, _, _, _⟩, ⟨_, _, _, _⟩, ⟨_, _, _, _⟩, ⟨_, _, _, _⟩, ⟨_, _, _, _⟩]) (M' := []) rfl rfl ?_
    refine Tr.rg ?_
    refine TrL.op (ok_clo (ks := [kPtr eBool m, kPtr (eL eI) (ordV o)]) (.cons rfl (fun _ => rfl) <| .cons rfl (fun _ => rfl) <| .nil)) rfl rfl ?_
    refine TrL.new (ok_alloc 9) rfl rfl rfl rfl ?_
    refine TrL.stB rfl rfl rfl rfl ?_
    refine TrL.fin ?_
    refine End.nxt ?_
    refine Tr.seq ?_
    refine Tr.frzB 9 [9] (eFn (kClo 43 [kPtr eBool m, kPtr (eL eI) (ordV o)])) ⟨rfl, trivial⟩ rfl ?_
    refine Tr.norm (S' := [⟨_, _, _, _⟩, ⟨_, _, _, _⟩, ⟨_, _, _, _⟩, ⟨_, _, _, _⟩, ⟨_, _, _, _⟩, ⟨_, _, _, _⟩, ⟨_, _, _, _⟩, ⟨_, _, _, _⟩, ⟨_, _, _, _⟩, ⟨_, _, _, _⟩, ⟨_, _, _, _⟩, ⟨_, _, _, _⟩, ⟨_, _, _, _⟩, ⟨_, _, _, _⟩, ⟨_, _, _, _⟩, ⟨_, _, _, _⟩, ⟨_, _, _, _⟩, ⟨_, _, _, _⟩, ⟨_, _, _, _⟩, ⟨_, _, _, _⟩, ⟨_, _, _, _⟩, ⟨_, _, _, _⟩, ⟨_, _, _, _⟩, ⟨_, _, _, _⟩]) (M' := []) rfl rfl ?_
    refine Tr.rg ?_
    refine TrL.op (ok_fldP rfl (fun _ => rfl) rfl) rfl rfl ?_
    refine TrL.op (ok_ldP rfl (fun _ => rfl) rfl) rfl rfl ?_
    refine TrL.op (ok_lenJ rfl (fun _ => rfl)) rfl rfl ?_
    refine TrL.new (ok_makeN eBool 32 rfl (fun _ => rfl) rfl (fun _ => rfl) rfl rfl rfl (fun _ => by omega)) rfl rfl rfl rfl ?_
    refine TrL.new (ok_alloc 10) rfl rfl rfl rfl ?_
    refine TrL.stB rfl rfl rfl rfl ?_
    refine TrL.fin ?_
    refine End.nxt ?_
    refine Tr.seq ?_
    refine Tr.rg ?_
    refine TrL.new (ok_alloc 11) rfl rfl rfl rfl ?_
    refine TrL.fin ?_
    refine End.nxt ?_
    refine Tr.seq ?_
    refine Tr.rg ?_
    refine TrL.op (ok_clo (ks := [kOwn 10 0, kPtr eO o, kPtr (eFn (kClo 43 [kPtr eBool m, kPtr (eL eI) (ordV o)])) (), kOwn 11 0]) (.cons rfl (fun _ => rfl) <| .cons rfl (fun _ => rfl) <| .cons rfl (fun _ => rfl) <| .cons rfl (fun _ => rfl) <| .nil)) rfl rfl ?_
    refine TrL.op (ok_assign rfl (fun _ => rfl)) rfl rfl ?_
    refine TrL.fin ?_
    refine End.nxt ?_
    refine Tr.seq ?_
    refine Tr.seq ?_
    refine Tr.rg ?_
    refine TrL.op (ok_fldP rfl (fun _ => rfl) rfl) rfl rfl ?_
    refine TrL.op (ok_ldP rfl (fun _ => rfl) rfl) rfl rfl ?_
    refine TrL.op (ok_call (fun hp => ct_cyR _ v) (.a rfl (fun _ => rfl) <| .nil)) rfl rfl ?_
    refine TrL.op (ok_lenJ rfl (fun _ => rfl)) rfl rfl ?_
    refine TrL.op (ok_move rfl (fun _ => rfl)) rfl rfl ?_
    refine TrL.fin ?_
    refine End.nxt ?_
    refine Tr.growC 11 0 33 rfl (ks' := [kOsl 33 0]) rfl rfl 52 eBand rfl (.cons inferInstance rfl <| inferInstance) ?_
    refine Tr.for1 (σ := Nat) [⟨2, true, _, _⟩, ⟨9, true, _, _⟩, ⟨10, true, _, _⟩, ⟨11, true, _, _⟩, ⟨12, true, _, _⟩, ⟨36, true, _, _⟩, ⟨37, true, _, _⟩] [] (fun k => [⟨38, true, [], kI (k : Int)⟩]) (fun k => [⟨10, [32], cBlk [kOsl 32 o.1.length]⟩, ⟨11, [33], cBlk [kOsl 33 (ph1 o m k).2.length]⟩, ⟨32, [], cArr false 4 eBool (seenB o.1.length (ph1 o m k).1) o.1.length⟩, ⟨33, [], cArr true 52 eBand (ph1 o m k).2 (ph1 o m k).2.length⟩]) (fun k => k ≤ (cyR o).length) (fun k => k = (cyR o).length) (fun k => (cyR o).length - k) (0) (Nat.zero_le _) (Ent.mk (.i rfl (by first | rfl | omega | (simp; done) | (simp; omega) | assumption) <| .k rfl rfl <| .k rfl rfl <| .k rfl rfl <| .k rfl rfl <| .k rfl rfl <| .k rfl rfl <| .k rfl rfl <| .nil) (.k rfl <| .e (by rfl) rfl <| .a (by rw [show (ph1 o m 0).1 = [] from rfl, seenB_nil]) (by first | rfl | omega | (simp; done) | (simp; omega) | assumption) <| .a (by rfl) (by first | rfl | omega | (simp; done) | (simp; omega) | assumption) <| .nil) rfl) ?_ ?_
    · intro k hR0
      refine Tr.norm (S' := [⟨38, true, _, _⟩, ⟨2, true, _, _⟩, ⟨9, true, _, _⟩, ⟨10, true, _, _⟩, ⟨11, true, _, _⟩, ⟨12, true, _, _⟩, ⟨36, true, _, _⟩, ⟨37, true, _, _⟩]) (M' := [⟨10, _, _⟩, ⟨11, _, _⟩, ⟨32, _, _⟩, ⟨33, _, _⟩]) rfl rfl ?_
      refine Tr.seq ?_
      refine Tr.rg ?_
      refine TrL.op (ok_lss rfl (fun _ => rfl) rfl (fun _ => rfl)) rfl rfl ?_
      refine TrL.fin ?_
      refine End.nxt ?_
      refine Tr.seq ?_
      refine Tr.cnd rfl ?_ ?_
      · intro h10
        replace h10 := of_decide_eq_true h10
        obtain ⟨hx, hrow⟩ := cyR_row v (k := k) (by omega)
        have hst := (ph1_ok (m := m) v (k := k) (by omega)).1
        have hsl := hst.len
        refine Tr.skip ?_
        refine End.nxt ?_
        refine Tr.seq ?_
        refine Tr.blk ?_
        refine Tr.seq ?_
        refine Tr.rg ?_
        first | refine TrL.op (ok_idxN rfl (fun _ => rfl) rfl (fun _ => rfl) rfl (fun _ => by omega)) rfl rfl ?_ | refine TrL.op (ok_idxP rfl (fun _ => rfl) rfl (fun _ => rfl) rfl (fun _ => by omega)) rfl rfl ?_
        refine TrL.op (ok_ldP rfl (fun _ => rfl) rfl) rfl rfl ?_
        refine TrL.op (ok_assign rfl (fun _ => rfl)) rfl rfl ?_
        refine TrL.fin ?_
        refine End.nxt ?_
        refine Tr.seq ?_
        refine Tr.rg ?_
        refine TrL.op (ok_ldP rfl (fun _ => rfl) rfl) rfl rfl ?_
        refine TrL.op (ok_move rfl (fun _ => rfl)) rfl rfl ?_
        refine TrL.op (ok_callK rfl (fun _ => rfl) (fun hp => ct_cyl1 (nth (cyR o) k) m (ordV o) (fun y hy => by rw [hrow] at hy; have h := v.pR.orb_rng hx hy; exact ⟨h.1, by rw [hoL]; exact h.2⟩)) (.a rfl (fun _ => rfl) <| .nil)) rfl rfl ?_
        refine TrL.fin ?_
        refine End.nxt ?_
        refine Tr.cnd rfl ?_ ?_
        · intro h12
          rw [bnd_cyc v (by omega)] at h12
          have hb0 := h12
          have hxm := ph1_new v (by omega) hb0
          refine Tr.rwR (s := 14) rfl hrow ?_
          refine Tr.rg ?_
          refine TrL.op (ok_move rfl (fun _ => rfl)) rfl rfl ?_
          refine TrL.op (ok_move rfl (fun _ => rfl)) rfl rfl ?_
          refine TrL.inl (res := kDet (.tuple #[])) (ks := [kRd (eL eI) (orb o.1 (nth (nth (cyR o) k) 0))]) (hds := (inferInstance : DepsOf [kRd (eL eI) (orb o.1 (nth (nth (cyR o) k) 0)), kOwn 10 0, kPtr eO o, kPtr (eFn (kClo 43 [kPtr eBool m, kPtr (eL eI) (ordV o)])) (), kOwn 11 0] _)) [10, 11, 32] Tryz.func46 rfl Tryz.ntmps46 rfl rfl (.cons rfl (fun _ => rfl) <| .nil) rfl rfl [⟨10, [32], cBlk [kOsl 32 o.1.length]⟩, ⟨11, [33], cBlk [kOsl 33 (grw o m (ph1 o m k) (nth (nth (cyR o) k) 0)).2.length]⟩, ⟨32, [], cArr false 4 eBool (seenB o.1.length (grw o m (ph1 o m k) (nth (nth (cyR o) k) 0)).1) o.1.length⟩, ⟨33, [], cArr true 52 eBand (grw o m (ph1 o m k) (nth (nth (cyR o) k) 0)).2 (grw o m (ph1 o m k) (nth (nth (cyR o) k) 0)).2.length⟩] rfl rfl rfl (fun J13 bks13 => ?_) ?_
          · skip
            refine Tr.seq ?_
            refine Tr.rg ?_
            refine TrL.op (ok_move rfl (fun _ => rfl)) rfl rfl ?_
            refine TrL.op (ok_lenJ rfl (fun _ => rfl)) rfl rfl ?_
            refine TrL.op (ok_build (fun hp => .cons rfl rfl rfl <| .nil)) rfl rfl ?_
            refine TrL.new (ok_alloc 6) rfl rfl rfl rfl ?_
            refine TrL.stB rfl rfl rfl rfl ?_
            refine TrL.fin ?_
            refine End.nxt ?_
            refine Tr.seq ?_
            refine Tr.seq ?_
            refine Tr.rg ?_
            refine TrL.op (ok_move rfl (fun _ => rfl)) rfl rfl ?_
            refine TrL.op (ok_assign rfl (fun _ => rfl)) rfl rfl ?_
            refine TrL.fin ?_
            refine End.nxt ?_
            refine Tr.growC 6 2 60 rfl (ks' := [_, _, kOsl 60 0]) rfl rfl 22 (eL eI) rfl (.cons inferInstance rfl <| .cons inferInstance rfl <| .cons inferInstance rfl <| inferInstance) ?_
            refine Tr.for1 (σ := Nat × List Int) [⟨1, true, _, _⟩, ⟨2, true, _, _⟩, ⟨3, true, _, _⟩, ⟨4, true, _, _⟩, ⟨6, true, _, _⟩, ⟨61, true, _, _⟩, ⟨62, true, _, _⟩, ⟨83, true, _, _⟩] [⟨10, _, _⟩, ⟨11, _, _⟩, ⟨33, _, _⟩] (fun (i, nx) => [⟨7, true, [], kRd (eL eI) nx⟩]) (fun (i, nx) => [⟨6, [60], cBlk [kI ((orb o.1 (nth (nth (cyR o) k) 0)).length : Int), kI 0, kOsl 60 i]⟩, ⟨60, [], cArr true 22 (eL eI) (rowsT o (nth (nth (cyR o) k) 0) i) i⟩, ⟨32, [], cArr false 4 eBool (seenB o.1.length ((ph1 o m k).1 ++ (rowsT o (nth (nth (cyR o) k) 0) i).flatten)) o.1.length⟩]) (fun (i, nx) => nx = (rowU o (nth (nth (cyR o) k) 0) i) ∧ (∀ j, 1 ≤ j → j < i → stopB o m (ph1 o m k).1 (nth (nth (cyR o) k) 0) j = false) ∧ (0 < i → (m || posR o (rowU o (nth (nth (cyR o) k) 0) i)) = false)) (fun (i, nx) => i = hgt o m (ph1 o m k).1 (nth (nth (cyR o) k) 0)) (fun (i, nx) => o.1.length + 1 - i) ((0, (rowU o (nth (nth (cyR o) k) 0) 0))) ⟨rfl, fun j a b => by omega, fun h => absurd h (by omega)⟩ (Ent.mk (.r rfl (by rfl) <| .k rfl rfl <| .k rfl rfl <| .k rfl rfl <| .k rfl rfl <| .k rfl rfl <| .k rfl rfl <| .k rfl rfl <| .k rfl rfl <| .nil) (.e (by rfl) rfl <| .a (by rfl) (by first | rfl | omega | (simp; done) | (simp; omega) | assumption) <| .a (by rw [show (rowsT o (nth (nth (cyR o) k) 0) 0).flatten = [] from rfl, List.append_nil]) (by first | rfl | omega | (simp; done) | (simp; omega) | assumption) <| .k rfl <| .k rfl <| .k rfl <| .nil) rfl) ?_ ?_
            · rintro ⟨i, _⟩ ⟨rfl, hs, hb⟩
              refine Tr.norm (S' := [⟨7, true, _, _⟩, ⟨1, true, _, _⟩, ⟨2, true, _, _⟩, ⟨3, true, _, _⟩, ⟨4, true, _, _⟩, ⟨6, true, _, _⟩, ⟨61, true, _, _⟩, ⟨62, true, _, _⟩, ⟨83, true, _, _⟩]) (M' := [⟨6, _, _⟩, ⟨60, _, _⟩, ⟨32, _, _⟩, ⟨10, _, _⟩, ⟨11, _, _⟩, ⟨33, _, _⟩]) rfl rfl ?_
              refine Tr.seq ?_
              refine Tr.seq ?_
              refine Tr.draw 4 mixed (by kernel_rfl) ?_
              have hyi := v.pU.its hx i
              have hu0 := rowU_head v hx (i := i)
              have hy0 : 0 ≤ nth (rowU o (nth (nth (cyR o) k) 0) i) 0 := by rw [hu0]; exact hyi.1
              have hy1 : nth (rowU o (nth (nth (cyR o) k) 0) i) 0 < o.1.length := by rw [hu0]; exact hyi.2
              have hul := rowU_lenpos v hx (i := i)
              refine RunD.op (ok_ldB rfl (fun _ => rfl) rfl) rfl rfl ?_
              refine RunD.op (ok_move rfl (fun _ => rfl)) rfl rfl ?_
              refine RunD.op (ok_idxN (i := 0) rfl (fun _ => rfl) rfl (fun _ => rfl) rfl (fun _ => by omega)) rfl rfl ?_
              refine RunD.op (ok_ldP rfl (fun _ => rfl) rfl) rfl rfl ?_
              refine RunD.z ?_
              first | refine TrL.op (ok_idxEN rfl (fun _ => rfl) rfl (fun _ => rfl) (fun _ => by omega)) rfl rfl ?_ | refine TrL.op (ok_idxE rfl (fun _ => rfl) rfl (fun _ => rfl) (fun _ => by omega)) rfl rfl ?_
              refine TrL.op (ok_ldE rfl (fun _ => rfl) rfl rfl rfl) rfl rfl ?_
              refine TrL.op (ok_not rfl (fun _ => rfl)) rfl rfl ?_
              refine TrL.fin ?_
              refine End.nxt ?_
              refine Tr.cnd rfl ?_ ?_
              · intro h2
                rw [nth_seenB' hy0 hy1, hu0] at h2
                simp only [Bool.not_eq_true', decide_eq_false_iff_not] at h2
                have hs1 := GS.step hs hb h2
                have hfw := hst.gs.few hx hxm hs1
                have hul2 := rowU_le v hx (i := i)
                refine Tr.skip ?_
                refine End.nxt ?_
                refine Tr.blk ?_
                refine Tr.seq ?_
                refine Tr.seq ?_
                refine Tr.rg ?_
                refine TrL.op (ok_move rfl (fun _ => rfl)) rfl rfl ?_
                refine TrL.op (ok_lenJ rfl (fun _ => rfl)) rfl rfl ?_
                refine TrL.op (ok_move rfl (fun _ => rfl)) rfl rfl ?_
                refine TrL.fin ?_
                refine End.nxt ?_
                refine Tr.for1 (σ := Nat) [⟨1, true, _, _⟩, ⟨2, true, _, _⟩, ⟨3, true, _, _⟩, ⟨4, true, _, _⟩, ⟨6, true, _, _⟩, ⟨7, true, _, _⟩, ⟨21, true, _, _⟩, ⟨22, true, _, _⟩, ⟨61, true, _, _⟩, ⟨62, true, _, _⟩, ⟨83, true, _, _⟩] [⟨10, _, _⟩, ⟨11, _, _⟩, ⟨33, _, _⟩, ⟨6, _, _⟩, ⟨60, _, _⟩] (fun j => [⟨23, true, [], kI (j : Int)⟩]) (fun j => [⟨32, [], cArr false 4 eBool (seenB o.1.length ((ph1 o m k).1 ++ (rowsT o (nth (nth (cyR o) k) 0) i).flatten ++ (rowU o (nth (nth (cyR o) k) 0) i).take j)) o.1.length⟩]) (fun j => j ≤ (rowU o (nth (nth (cyR o) k) 0) i).length) (fun j => j = (rowU o (nth (nth (cyR o) k) 0) i).length) (fun j => (rowU o (nth (nth (cyR o) k) 0) i).length - j) (0) (Nat.zero_le _) (Ent.mk (.i rfl (by first | rfl | omega | (simp; done) | (simp; omega) | assumption) <| .k rfl rfl <| .k rfl rfl <| .k rfl rfl <| .k rfl rfl <| .k rfl rfl <| .k rfl rfl <| .k rfl rfl <| .k rfl rfl <| .k rfl rfl <| .k rfl rfl <| .k rfl rfl <| .nil) (.a (by rw [List.take_zero, List.append_nil]) (by first | rfl | omega | (simp; done) | (simp; omega) | assumption) <| .k rfl <| .k rfl <| .k rfl <| .k rfl <| .k rfl <| .nil) rfl) ?_ ?_
                · intro j hR1
                  refine Tr.norm (S' := [⟨23, true, _, _⟩, ⟨1, true, _, _⟩, ⟨2, true, _, _⟩, ⟨3, true, _, _⟩, ⟨4, true, _, _⟩, ⟨6, true, _, _⟩, ⟨7, true, _, _⟩, ⟨21, true, _, _⟩, ⟨22, true, _, _⟩, ⟨61, true, _, _⟩, ⟨62, true, _, _⟩, ⟨83, true, _, _⟩]) (M' := [⟨32, _, _⟩, ⟨10, _, _⟩, ⟨11, _, _⟩, ⟨33, _, _⟩, ⟨6, _, _⟩, ⟨60, _, _⟩]) rfl rfl ?_
                  refine Tr.seq ?_
                  refine Tr.rg ?_
                  refine TrL.op (ok_lss rfl (fun _ => rfl) rfl (fun _ => rfl)) rfl rfl ?_
                  refine TrL.fin ?_
                  refine End.nxt ?_
                  refine Tr.seq ?_
                  refine Tr.cnd rfl ?_ ?_
                  · intro h4
                    replace h4 := of_decide_eq_true h4
                    refine Tr.skip ?_
                    refine End.nxt ?_
                    refine Tr.seq ?_
                    refine Tr.blk ?_
                    refine Tr.seq ?_
                    refine Tr.rg ?_
                    first | refine TrL.op (ok_idxN rfl (fun _ => rfl) rfl (fun _ => rfl) rfl (fun _ => by omega)) rfl rfl ?_ | refine TrL.op (ok_idxP rfl (fun _ => rfl) rfl (fun _ => rfl) rfl (fun _ => by omega)) rfl rfl ?_
                    refine TrL.op (ok_ldP rfl (fun _ => rfl) rfl) rfl rfl ?_
                    refine TrL.op (ok_assign rfl (fun _ => rfl)) rfl rfl ?_
                    refine TrL.fin ?_
                    refine End.nxt ?_
                    refine Tr.rg ?_
                    have hje := rowU_sq v hx _ (nth_mem (xs := (rowU o (nth (nth (cyR o) k) 0) i)) (i := j) (by omega))
                    have hje0 := hje.1
                    have hje1 := hje.2
                    refine TrL.op (ok_ldB rfl (fun _ => rfl) rfl) rfl rfl ?_
                    refine TrL.op (ok_move rfl (fun _ => rfl)) rfl rfl ?_
                    first | refine TrL.op (ok_idxEN rfl (fun _ => rfl) rfl (fun _ => rfl) (fun _ => by omega)) rfl rfl ?_ | refine TrL.op (ok_idxE rfl (fun _ => rfl) rfl (fun _ => rfl) (fun _ => by omega)) rfl rfl ?_
                    refine TrL.stE rfl rfl rfl rfl rfl ?_
                    refine TrL.fin ?_
                    refine End.blk ?_
                    refine End.nxt ?_
                    refine Tr.rg ?_
                    refine TrL.op (ok_add rfl (fun _ => rfl) rfl (fun _ => rfl) (fun _ => by omega)) rfl rfl ?_
                    refine TrL.op (ok_move rfl (fun _ => rfl)) rfl rfl ?_
                    refine TrL.fin ?_
                    exact End.lp (j + 1) (by first | rfl | omega | (simp; done) | (simp; omega) | assumption) (by omega) (Ent.mk (.i rfl (by first | rfl | omega | (simp; done) | (simp; omega) | assumption) <| .k rfl rfl <| .k rfl rfl <| .k rfl rfl <| .k rfl rfl <| .k rfl rfl <| .k rfl rfl <| .k rfl rfl <| .k rfl rfl <| .k rfl rfl <| .k rfl rfl <| .k rfl rfl <| .nil) (.a (by rw [take_succ_nth (by omega), seenB_set hje0, List.append_assoc]) (by first | rfl | omega | (simp; done) | (simp; omega) | assumption) <| .k rfl <| .k rfl <| .k rfl <| .k rfl <| .k rfl <| .nil) rfl)
                  · intro h4
                    replace h4 := Int.not_lt.1 (of_decide_eq_false h4)
                    refine Tr.exit ?_
                    refine Exs.thn ?_
                    refine Exs.thn ?_
                    refine Exs.here ?_
                    exact End.cut (j) (by omega) (Ent.mk (.i rfl (by first | rfl | omega | (simp; done) | (simp; omega) | assumption) <| .k rfl rfl <| .k rfl rfl <| .k rfl rfl <| .k rfl rfl <| .k rfl rfl <| .k rfl rfl <| .k rfl rfl <| .k rfl rfl <| .k rfl rfl <| .k rfl rfl <| .k rfl rfl <| .nil) (.a (by first | rfl | omega | (simp; done) | (simp; omega) | assumption) (by first | rfl | omega | (simp; done) | (simp; omega) | assumption) <| .k rfl <| .k rfl <| .k rfl <| .k rfl <| .k rfl <| .nil) rfl)
                · rintro _ rfl
                  refine End.norm (S' := [⟨23, true, _, _⟩, ⟨1, true, _, _⟩, ⟨2, true, _, _⟩, ⟨3, true, _, _⟩, ⟨4, true, _, _⟩, ⟨6, true, _, _⟩, ⟨7, true, _, _⟩, ⟨21, true, _, _⟩, ⟨22, true, _, _⟩, ⟨61, true, _, _⟩, ⟨62, true, _, _⟩, ⟨83, true, _, _⟩]) (M' := [⟨32, _, _⟩, ⟨10, _, _⟩, ⟨11, _, _⟩, ⟨33, _, _⟩, ⟨6, _, _⟩, ⟨60, _, _⟩]) rfl rfl ?_
                  refine End.nxt ?_
                  refine Tr.seq ?_
                  refine Tr.rg ?_
                  refine TrL.op (ok_fldO rfl (fun _ => rfl)) rfl rfl ?_
                  refine TrL.op (ok_ldB rfl (fun _ => rfl) rfl) rfl rfl ?_
                  refine TrL.op (ok_move rfl (fun _ => rfl)) rfl rfl ?_
                  refine TrL.new (ok_bsl (eL eI) 34 (fun hp => .cons rfl <| .nil) rfl rfl rfl rfl) rfl rfl rfl rfl ?_
                  refine TrL.wkC 6 (.k <| .k <| .any <| .nil) rfl ?_
                  refine TrL.app rfl rfl rfl rfl rfl rfl rfl rfl (by first | omega | (simp only [List.length_cons, List.length_nil]; omega)) (by first | omega | (simp only [List.length_cons, List.length_nil]; omega)) ?_
                  refine TrL.norm (S' := [⟨_, _, _, _⟩, ⟨_, _, _, _⟩, ⟨_, _, _, _⟩, ⟨_, _, _, _⟩, ⟨_, _, _, _⟩, ⟨_, _, _, _⟩, ⟨_, _, _, _⟩, ⟨_, _, _, _⟩, ⟨_, _, _, _⟩, ⟨_, _, _, _⟩, ⟨_, _, _, _⟩, ⟨_, _, _, _⟩, ⟨_, _, _, _⟩, ⟨_, _, _, _⟩, ⟨_, _, _, _⟩, ⟨_, _, _, _⟩, ⟨_, _, _, _⟩]) rfl rfl ?_
                  refine TrL.op (ok_fldO rfl (fun _ => rfl)) rfl rfl ?_
                  refine TrL.stB rfl rfl rfl rfl ?_
                  refine TrL.fin ?_
                  refine End.nxt ?_
                  refine Tr.seq ?_
                  refine Tr.rg ?_
                  refine TrL.op (ok_ldPA rfl (fun _ => rfl) rfl rfl) rfl rfl ?_
                  refine TrL.op (ok_move rfl (fun _ => rfl)) rfl rfl ?_
                  refine TrL.op (ok_call (fun hp => ct_above o (rowU o (nth (nth (cyR o) k) 0) i) (fun y hy => by have h := rowU_sq v hx y hy; exact ⟨h.1, by have := v.len; have := h.2; omega⟩) (by omega)) (.a rfl (fun _ => rfl) <| .a rfl (fun _ => rfl) <| .nil)) rfl rfl ?_
                  refine TrL.op (ok_assign rfl (fun _ => rfl)) rfl rfl ?_
                  refine TrL.fin ?_
                  refine End.nxt ?_
                  refine Tr.seq ?_
                  refine Tr.rg ?_
                  refine TrL.op (ok_ldP rfl (fun _ => rfl) rfl) rfl rfl ?_
                  refine TrL.op (ok_move rfl (fun _ => rfl)) rfl rfl ?_
                  refine TrL.op (ok_callK rfl (fun _ => rfl) (fun hp => ct_cyl1 (abvL o (rowU o (nth (nth (cyR o) k) 0) i)) m (ordV o) (fun y hy => by have h := abv_sq v (rowU_sq v hx) y hy; exact ⟨h.1, by rw [hoL]; exact h.2⟩)) (.a rfl (fun _ => rfl) <| .nil)) rfl rfl ?_
                  refine TrL.fin ?_
                  refine End.nxt ?_
                  refine Tr.cnd rfl ?_ ?_
                  · intro h10
                    rw [bnd_row v hx] at h10
                    refine Tr.exit ?_
                    refine Exs.out rfl ?_
                    refine Exs.thn ?_
                    refine Exs.here ?_
                    exact End.cut ((i + 1, abvL o (rowU o (nth (nth (cyR o) k) 0) i))) (hst.gs.end1 hx hxm hs1 h10) (Ent.mk (.r rfl (by first | rfl | omega | (simp; done) | (simp; omega) | assumption) <| .k rfl rfl <| .k rfl rfl <| .k rfl rfl <| .k rfl rfl <| .k rfl rfl <| .k rfl rfl <| .k rfl rfl <| .k rfl rfl <| .nil) (.e (by rfl) rfl <| .a (by rw [rowsT_succ]) (by first | rfl | omega | (simp; done) | (simp; omega) | assumption) <| .a (by rw [List.take_length, rowsT_flat, List.append_assoc]) (by first | rfl | omega | (simp; done) | (simp; omega) | assumption) <| .k rfl <| .k rfl <| .k rfl <| .nil) rfl)
                  · intro h10
                    rw [bnd_row v hx] at h10
                    have hnx := rowU_next v hx (by rw [rowU_pos v hx]; exact (Bool.or_eq_false_iff.1 h10).2)
                    refine Tr.skip ?_
                    refine End.blk ?_
                    exact End.lp ((i + 1, (rowU o (nth (nth (cyR o) k) 0) (i + 1)))) ⟨rfl, hs1, fun _ => h10⟩ (show o.1.length + 1 - (i + 1) < o.1.length + 1 - i by omega) (Ent.mk (.r rfl hnx <| .k rfl rfl <| .k rfl rfl <| .k rfl rfl <| .k rfl rfl <| .k rfl rfl <| .k rfl rfl <| .k rfl rfl <| .k rfl rfl <| .nil) (.e (by rfl) rfl <| .a (by rw [rowsT_succ]) (by first | rfl | omega | (simp; done) | (simp; omega) | assumption) <| .a (by rw [List.take_length, rowsT_flat, List.append_assoc]) (by first | rfl | omega | (simp; done) | (simp; omega) | assumption) <| .k rfl <| .k rfl <| .k rfl <| .nil) rfl)
              · intro h2
                rw [nth_seenB' hy0 hy1, hu0] at h2
                simp only [Bool.not_eq_false', decide_eq_true_eq] at h2
                refine Tr.exit ?_
                refine Exs.thn ?_
                refine Exs.thn ?_
                refine Exs.here ?_
                exact End.cut ((i, (rowU o (nth (nth (cyR o) k) 0) i))) (hst.gs.end0 hx hxm hs h2) (Ent.mk (.r rfl (by first | rfl | omega | (simp; done) | (simp; omega) | assumption) <| .k rfl rfl <| .k rfl rfl <| .k rfl rfl <| .k rfl rfl <| .k rfl rfl <| .k rfl rfl <| .k rfl rfl <| .k rfl rfl <| .nil) (.k rfl <| .a (by first | rfl | omega | (simp; done) | (simp; omega) | assumption) (by first | rfl | omega | (simp; done) | (simp; omega) | assumption) <| .a (by first | rfl | omega | (simp; done) | (simp; omega) | assumption) (by first | rfl | omega | (simp; done) | (simp; omega) | assumption) <| .k rfl <| .k rfl <| .k rfl <| .nil) rfl)
            · rintro ⟨_, nx⟩ rfl
              refine End.norm (S' := [⟨7, true, _, _⟩, ⟨1, true, _, _⟩, ⟨2, true, _, _⟩, ⟨3, true, _, _⟩, ⟨4, true, _, _⟩, ⟨6, true, _, _⟩, ⟨61, true, _, _⟩, ⟨62, true, _, _⟩, ⟨83, true, _, _⟩]) (M' := [⟨6, _, _⟩, ⟨60, _, _⟩, ⟨32, _, _⟩, ⟨10, _, _⟩, ⟨11, _, _⟩, ⟨33, _, _⟩]) rfl rfl ?_
              have hhl := hst.gs.le hx hxm (m := m)
              refine End.nxt ?_
              refine Tr.seq ?_
              refine Tr.rg ?_
              refine TrL.op (ok_fldO rfl (fun _ => rfl)) rfl rfl ?_
              refine TrL.op (ok_ldB rfl (fun _ => rfl) rfl) rfl rfl ?_
              refine TrL.op (ok_lenO rfl (fun _ => rfl)) rfl rfl ?_
              refine TrL.op (ok_fldO rfl (fun _ => rfl)) rfl rfl ?_
              refine TrL.stB rfl rfl rfl rfl ?_
              refine TrL.fin ?_
              refine End.nxt ?_
              refine Tr.frzC 60 6 (by simp only [lenMax]; omega) rfl rfl ?_
              refine Tr.rg ?_
              refine TrL.op (ok_ldB rfl (fun _ => rfl) rfl) rfl rfl ?_
              refine TrL.op (ok_ldBS rfl (fun _ => rfl)) rfl rfl ?_
              refine TrL.new (ok_bsl eBand 49 (fun hp => .cons rfl <| .nil) rfl rfl rfl rfl) rfl rfl rfl rfl ?_
              refine TrL.wkC 11 (.any <| .nil) rfl ?_
              refine TrL.app rfl rfl rfl rfl rfl rfl rfl rfl (by first | omega | (simp only [List.length_cons, List.length_nil]; omega)) (by first | omega | (simp only [List.length_cons, List.length_nil]; omega)) ?_
              refine TrL.norm (S' := [⟨_, _, _, _⟩, ⟨_, _, _, _⟩, ⟨_, _, _, _⟩, ⟨_, _, _, _⟩, ⟨_, _, _, _⟩, ⟨_, _, _, _⟩, ⟨_, _, _, _⟩, ⟨_, _, _, _⟩, ⟨_, _, _, _⟩, ⟨_, _, _, _⟩, ⟨_, _, _, _⟩, ⟨_, _, _, _⟩, ⟨_, _, _, _⟩, ⟨_, _, _, _⟩, ⟨_, _, _, _⟩, ⟨_, _, _, _⟩, ⟨_, _, _, _⟩]) rfl rfl ?_
              refine TrL.stB rfl rfl rfl rfl ?_
              refine TrL.fin ?_
              exact End.inlE (n := 51) (bks := bks13) rfl (Ent.mk (.k rfl rfl <| .k rfl rfl <| .k rfl rfl <| .nil) (.k rfl <| .e (by rw [grw2]; rfl) rfl <| .a (by unfold grw; rfl) (by first | rfl | omega | (simp; done) | (simp; omega) | assumption) <| .a (by unfold grw bandG; rw [orb_len]) grw2.symm <| .nil) rfl) (.cons rfl <| .cons rfl <| .cons rfl <| .nil)
          refine TrL.norm (S' := [⟨_, _, _, _⟩, ⟨_, _, _, _⟩, ⟨_, _, _, _⟩, ⟨_, _, _, _⟩, ⟨_, _, _, _⟩, ⟨_, _, _, _⟩, ⟨_, _, _, _⟩, ⟨_, _, _, _⟩, ⟨_, _, _, _⟩, ⟨_, _, _, _⟩, ⟨_, _, _, _⟩, ⟨_, _, _, _⟩, ⟨_, _, _, _⟩, ⟨_, _, _, _⟩, ⟨_, _, _, _⟩, ⟨_, _, _, _⟩, ⟨_, _, _, _⟩, ⟨_, _, _, _⟩, ⟨_, _, _, _⟩]) rfl rfl ?_
          refine TrL.fin ?_
          refine End.blk ?_
          refine End.nxt ?_
          refine Tr.rg ?_
          refine TrL.op (ok_add rfl (fun _ => rfl) rfl (fun _ => rfl) (fun _ => by omega)) rfl rfl ?_
          refine TrL.op (ok_move rfl (fun _ => rfl)) rfl rfl ?_
          refine TrL.fin ?_
          exact End.lp (k + 1) (by first | rfl | omega | (simp; done) | (simp; omega) | assumption) (by omega) (Ent.mk (.i rfl (by first | rfl | omega | (simp; done) | (simp; omega) | assumption) <| .k rfl rfl <| .k rfl rfl <| .k rfl rfl <| .k rfl rfl <| .k rfl rfl <| .k rfl rfl <| .k rfl rfl <| .nil) (.k rfl <| .e (by rw [ph1_in hb0]) rfl <| .a (by rw [ph1_in hb0]) (by first | rfl | omega | (simp; done) | (simp; omega) | assumption) <| .a (by rw [ph1_in hb0]) (by rw [ph1_in hb0]) <| .nil) rfl)
        · intro h12
          rw [bnd_cyc v (by omega)] at h12
          have hb0 := h12
          refine Tr.skip ?_
          refine End.blk ?_
          refine End.nxt ?_
          refine Tr.rg ?_
          refine TrL.op (ok_add rfl (fun _ => rfl) rfl (fun _ => rfl) (fun _ => by omega)) rfl rfl ?_
          refine TrL.op (ok_move rfl (fun _ => rfl)) rfl rfl ?_
          refine TrL.fin ?_
          exact End.lp (k + 1) (by first | rfl | omega | (simp; done) | (simp; omega) | assumption) (by omega) (Ent.mk (.i rfl (by first | rfl | omega | (simp; done) | (simp; omega) | assumption) <| .k rfl rfl <| .k rfl rfl <| .k rfl rfl <| .k rfl rfl <| .k rfl rfl <| .k rfl rfl <| .k rfl rfl <| .nil) (.k rfl <| .e (by rw [ph1_out hb0]) rfl <| .a (by rw [ph1_out hb0]) (by first | rfl | omega | (simp; done) | (simp; omega) | assumption) <| .a (by rw [ph1_out hb0]) (by rw [ph1_out hb0]) <| .nil) rfl)
      · intro h10
        replace h10 := Int.not_lt.1 (of_decide_eq_false h10)
        refine Tr.exit ?_
        refine Exs.thn ?_
        refine Exs.thn ?_
        refine Exs.here ?_
        exact End.cut (k) (by omega) (Ent.mk (.i rfl (by first | rfl | omega | (simp; done) | (simp; omega) | assumption) <| .k rfl rfl <| .k rfl rfl <| .k rfl rfl <| .k rfl rfl <| .k rfl rfl <| .k rfl rfl <| .k rfl rfl <| .nil) (.k rfl <| .k rfl <| .a (by first | rfl | omega | (simp; done) | (simp; omega) | assumption) (by first | rfl | omega | (simp; done) | (simp; omega) | assumption) <| .a (by first | rfl | omega | (simp; done) | (simp; omega) | assumption) (by first | rfl | omega | (simp; done) | (simp; omega) | assumption) <| .nil) rfl)
    · rintro _ rfl
      refine End.norm (S' := [⟨38, true, _, _⟩, ⟨2, true, _, _⟩, ⟨9, true, _, _⟩, ⟨10, true, _, _⟩, ⟨11, true, _, _⟩, ⟨12, true, _, _⟩, ⟨36, true, _, _⟩, ⟨37, true, _, _⟩]) (M' := [⟨10, _, _⟩, ⟨11, _, _⟩, ⟨32, _, _⟩, ⟨33, _, _⟩]) rfl rfl ?_
      refine End.nxt ?_
      refine Tr.seq ?_
      refine Tr.seq ?_
      refine Tr.rg ?_
      refine TrL.op (ok_fldP rfl (fun _ => rfl) rfl) rfl rfl ?_
      refine TrL.op (ok_ldP rfl (fun _ => rfl) rfl) rfl rfl ?_
      refine TrL.op (ok_call (fun hp => ct_cyR _ v) (.a rfl (fun _ => rfl) <| .nil)) rfl rfl ?_
      refine TrL.op (ok_lenJ rfl (fun _ => rfl)) rfl rfl ?_
      refine TrL.op (ok_move rfl (fun _ => rfl)) rfl rfl ?_
      refine TrL.fin ?_
      refine End.nxt ?_
      refine Tr.for1 (σ := Nat) [⟨10, true, _, _⟩, ⟨11, true, _, _⟩, ⟨12, true, _, _⟩, ⟨51, true, _, _⟩, ⟨52, true, _, _⟩] [] (fun k => [⟨53, true, [], kI (k : Int)⟩]) (fun k => [⟨10, [32], cBlk [kOsl 32 o.1.length]⟩, ⟨11, [33], cBlk [kOsl 33 (ph2 o m k).2.length]⟩, ⟨32, [], cArr false 4 eBool (seenB o.1.length (ph2 o m k).1) o.1.length⟩, ⟨33, [], cArr true 52 eBand (ph2 o m k).2 (ph2 o m k).2.length⟩]) (fun k => k ≤ (cyR o).length) (fun k => k = (cyR o).length) (fun k => (cyR o).length - k) (0) (Nat.zero_le _) (Ent.mk (.i rfl (by first | rfl | omega | (simp; done) | (simp; omega) | assumption) <| .k rfl rfl <| .k rfl rfl <| .k rfl rfl <| .k rfl rfl <| .k rfl rfl <| .nil) (.k rfl <| .e (by rfl) rfl <| .a (by rfl) (by first | rfl | omega | (simp; done) | (simp; omega) | assumption) <| .a (by rfl) (by first | rfl | omega | (simp; done) | (simp; omega) | assumption) <| .nil) rfl) ?_ ?_
      · intro k hR1
        refine Tr.norm (S' := [⟨53, true, _, _⟩, ⟨10, true, _, _⟩, ⟨11, true, _, _⟩, ⟨12, true, _, _⟩, ⟨51, true, _, _⟩, ⟨52, true, _, _⟩]) (M' := [⟨10, _, _⟩, ⟨11, _, _⟩, ⟨32, _, _⟩, ⟨33, _, _⟩]) rfl rfl ?_
        refine Tr.seq ?_
        refine Tr.rg ?_
        refine TrL.op (ok_lss rfl (fun _ => rfl) rfl (fun _ => rfl)) rfl rfl ?_
        refine TrL.fin ?_
        refine End.nxt ?_
        refine Tr.seq ?_
        refine Tr.cnd rfl ?_ ?_
        · intro h16
          replace h16 := of_decide_eq_true h16
          obtain ⟨hx, hrow⟩ := cyR_row v (k := k) (by omega)
          have hst := (ph2_ok (m := m) v (k := k) (by omega)).1
          have hsl := hst.len
          have hrl : 0 < (nth (cyR o) k).length := by rw [hrow]; exact rowU_lenpos v hx (i := 0)
          have hx0 : 0 ≤ nth (nth (cyR o) k) 0 := hx.1
          have hx1 : nth (nth (cyR o) k) 0 < o.1.length := hx.2
          refine Tr.skip ?_
          refine End.nxt ?_
          refine Tr.seq ?_
          refine Tr.blk ?_
          refine Tr.seq ?_
          refine Tr.rg ?_
          first | refine TrL.op (ok_idxN rfl (fun _ => rfl) rfl (fun _ => rfl) rfl (fun _ => by omega)) rfl rfl ?_ | refine TrL.op (ok_idxP rfl (fun _ => rfl) rfl (fun _ => rfl) rfl (fun _ => by omega)) rfl rfl ?_
          refine TrL.op (ok_ldP rfl (fun _ => rfl) rfl) rfl rfl ?_
          refine TrL.op (ok_assign rfl (fun _ => rfl)) rfl rfl ?_
          refine TrL.fin ?_
          refine End.nxt ?_
          refine Tr.seq ?_
          refine Tr.draw 4 mixed (by kernel_rfl) ?_
          refine RunD.op (ok_ldB rfl (fun _ => rfl) rfl) rfl rfl ?_
          refine RunD.op (ok_move rfl (fun _ => rfl)) rfl rfl ?_
          refine RunD.op (ok_idxN (i := 0) rfl (fun _ => rfl) rfl (fun _ => rfl) rfl (fun _ => by omega)) rfl rfl ?_
          refine RunD.op (ok_ldP rfl (fun _ => rfl) rfl) rfl rfl ?_
          refine RunD.z ?_
          first | refine TrL.op (ok_idxEN rfl (fun _ => rfl) rfl (fun _ => rfl) (fun _ => by omega)) rfl rfl ?_ | refine TrL.op (ok_idxE rfl (fun _ => rfl) rfl (fun _ => rfl) (fun _ => by omega)) rfl rfl ?_
          refine TrL.op (ok_ldE rfl (fun _ => rfl) rfl rfl rfl) rfl rfl ?_
          refine TrL.op (ok_not rfl (fun _ => rfl)) rfl rfl ?_
          refine TrL.fin ?_
          refine End.nxt ?_
          refine Tr.cnd rfl ?_ ?_
          · intro h18
            rw [nth_seenB' hx0 hx1] at h18
            simp only [Bool.not_eq_true', decide_eq_false_iff_not] at h18
            have hb0 := h18
            have hxm := h18
            refine Tr.rwR (s := 16) rfl hrow ?_
            refine Tr.rg ?_
            refine TrL.op (ok_move rfl (fun _ => rfl)) rfl rfl ?_
            refine TrL.op (ok_move rfl (fun _ => rfl)) rfl rfl ?_
            refine TrL.inl (res := kDet (.tuple #[])) (ks := [kRd (eL eI) (orb o.1 (nth (nth (cyR o) k) 0))]) (hds := (inferInstance : DepsOf [kRd (eL eI) (orb o.1 (nth (nth (cyR o) k) 0)), kOwn 10 0, kPtr eO o, kPtr (eFn (kClo 43 [kPtr eBool m, kPtr (eL eI) (ordV o)])) (), kOwn 11 0] _)) [10, 11, 32] Tryz.func46 rfl Tryz.ntmps46 rfl rfl (.cons rfl (fun _ => rfl) <| .nil) rfl rfl [⟨10, [32], cBlk [kOsl 32 o.1.length]⟩, ⟨11, [33], cBlk [kOsl 33 (grw o m (ph2 o m k) (nth (nth (cyR o) k) 0)).2.length]⟩, ⟨32, [], cArr false 4 eBool (seenB o.1.length (grw o m (ph2 o m k) (nth (nth (cyR o) k) 0)).1) o.1.length⟩, ⟨33, [], cArr true 52 eBand (grw o m (ph2 o m k) (nth (nth (cyR o) k) 0)).2 (grw o m (ph2 o m k) (nth (nth (cyR o) k) 0)).2.length⟩] rfl rfl rfl (fun J19 bks19 => ?_) ?_
            · skip
              refine Tr.seq ?_
              refine Tr.rg ?_
              refine TrL.op (ok_move rfl (fun _ => rfl)) rfl rfl ?_
              refine TrL.op (ok_lenJ rfl (fun _ => rfl)) rfl rfl ?_
              refine TrL.op (ok_build (fun hp => .cons rfl rfl rfl <| .nil)) rfl rfl ?_
              refine TrL.new (ok_alloc 6) rfl rfl rfl rfl ?_
              refine TrL.stB rfl rfl rfl rfl ?_
              refine TrL.fin ?_
              refine End.nxt ?_
              refine Tr.seq ?_
              refine Tr.seq ?_
              refine Tr.rg ?_
              refine TrL.op (ok_move rfl (fun _ => rfl)) rfl rfl ?_
              refine TrL.op (ok_assign rfl (fun _ => rfl)) rfl rfl ?_
              refine TrL.fin ?_
              refine End.nxt ?_
              refine Tr.growC 6 2 60 rfl (ks' := [_, _, kOsl 60 0]) rfl rfl 22 (eL eI) rfl (.cons inferInstance rfl <| .cons inferInstance rfl <| .cons inferInstance rfl <| inferInstance) ?_
              refine Tr.for1 (σ := Nat × List Int) [⟨1, true, _, _⟩, ⟨2, true, _, _⟩, ⟨3, true, _, _⟩, ⟨4, true, _, _⟩, ⟨6, true, _, _⟩, ⟨61, true, _, _⟩, ⟨62, true, _, _⟩, ⟨83, true, _, _⟩] [⟨10, _, _⟩, ⟨11, _, _⟩, ⟨33, _, _⟩] (fun (i, nx) => [⟨7, true, [], kRd (eL eI) nx⟩]) (fun (i, nx) => [⟨6, [60], cBlk [kI ((orb o.1 (nth (nth (cyR o) k) 0)).length : Int), kI 0, kOsl 60 i]⟩, ⟨60, [], cArr true 22 (eL eI) (rowsT o (nth (nth (cyR o) k) 0) i) i⟩, ⟨32, [], cArr false 4 eBool (seenB o.1.length ((ph2 o m k).1 ++ (rowsT o (nth (nth (cyR o) k) 0) i).flatten)) o.1.length⟩]) (fun (i, nx) => nx = (rowU o (nth (nth (cyR o) k) 0) i) ∧ (∀ j, 1 ≤ j → j < i → stopB o m (ph2 o m k).1 (nth (nth (cyR o) k) 0) j = false) ∧ (0 < i → (m || posR o (rowU o (nth (nth (cyR o) k) 0) i)) = false)) (fun (i, nx) => i = hgt o m (ph2 o m k).1 (nth (nth (cyR o) k) 0)) (fun (i, nx) => o.1.length + 1 - i) ((0, (rowU o (nth (nth (cyR o) k) 0) 0))) ⟨rfl, fun j a b => by omega, fun h => absurd h (by omega)⟩ (Ent.mk (.r rfl (by rfl) <| .k rfl rfl <| .k rfl rfl <| .k rfl rfl <| .k rfl rfl <| .k rfl rfl <| .k rfl rfl <| .k rfl rfl <| .k rfl rfl <| .nil) (.e (by rfl) rfl <| .a (by rfl) (by first | rfl | omega | (simp; done) | (simp; omega) | assumption) <| .a (by rw [show (rowsT o (nth (nth (cyR o) k) 0) 0).flatten = [] from rfl, List.append_nil]) (by first | rfl | omega | (simp; done) | (simp; omega) | assumption) <| .k rfl <| .k rfl <| .k rfl <| .nil) rfl) ?_ ?_
              · rintro ⟨i, _⟩ ⟨rfl, hs, hb⟩
                refine Tr.norm (S' := [⟨7, true, _, _⟩, ⟨1, true, _, _⟩, ⟨2, true, _, _⟩, ⟨3, true, _, _⟩, ⟨4, true, _, _⟩, ⟨6, true, _, _⟩, ⟨61, true, _, _⟩, ⟨62, true, _, _⟩, ⟨83, true, _, _⟩]) (M' := [⟨6, _, _⟩, ⟨60, _, _⟩, ⟨32, _, _⟩, ⟨10, _, _⟩, ⟨11, _, _⟩, ⟨33, _, _⟩]) rfl rfl ?_
                refine Tr.seq ?_
                refine Tr.seq ?_
                refine Tr.draw 4 mixed (by kernel_rfl) ?_
                have hyi := v.pU.its hx i
                have hu0 := rowU_head v hx (i := i)
                have hy0 : 0 ≤ nth (rowU o (nth (nth (cyR o) k) 0) i) 0 := by rw [hu0]; exact hyi.1
                have hy1 : nth (rowU o (nth (nth (cyR o) k) 0) i) 0 < o.1.length := by rw [hu0]; exact hyi.2
                have hul := rowU_lenpos v hx (i := i)
                refine RunD.op (ok_ldB rfl (fun _ => rfl) rfl) rfl rfl ?_
                refine RunD.op (ok_move rfl (fun _ => rfl)) rfl rfl ?_
                refine RunD.op (ok_idxN (i := 0) rfl (fun _ => rfl) rfl (fun _ => rfl) rfl (fun _ => by omega)) rfl rfl ?_
                refine RunD.op (ok_ldP rfl (fun _ => rfl) rfl) rfl rfl ?_
                refine RunD.z ?_
                first | refine TrL.op (ok_idxEN rfl (fun _ => rfl) rfl (fun _ => rfl) (fun _ => by omega)) rfl rfl ?_ | refine TrL.op (ok_idxE rfl (fun _ => rfl) rfl (fun _ => rfl) (fun _ => by omega)) rfl rfl ?_
                refine TrL.op (ok_ldE rfl (fun _ => rfl) rfl rfl rfl) rfl rfl ?_
                refine TrL.op (ok_not rfl (fun _ => rfl)) rfl rfl ?_
                refine TrL.fin ?_
                refine End.nxt ?_
                refine Tr.cnd rfl ?_ ?_
                · intro h2
                  rw [nth_seenB' hy0 hy1, hu0] at h2
                  simp only [Bool.not_eq_true', decide_eq_false_iff_not] at h2
                  have hs1 := GS.step hs hb h2
                  have hfw := hst.gs.few hx hxm hs1
                  have hul2 := rowU_le v hx (i := i)
                  refine Tr.skip ?_
                  refine End.nxt ?_
                  refine Tr.blk ?_
                  refine Tr.seq ?_
                  refine Tr.seq ?_
                  refine Tr.rg ?_
                  refine TrL.op (ok_move rfl (fun _ => rfl)) rfl rfl ?_
                  refine TrL.op (ok_lenJ rfl (fun _ => rfl)) rfl rfl ?_
                  refine TrL.op (ok_move rfl (fun _ => rfl)) rfl rfl ?_
                  refine TrL.fin ?_
                  refine End.nxt ?_
                  refine Tr.for1 (σ := Nat) [⟨1, true, _, _⟩, ⟨2, true, _, _⟩, ⟨3, true, _, _⟩, ⟨4, true, _, _⟩, ⟨6, true, _, _⟩, ⟨7, true, _, _⟩, ⟨21, true, _, _⟩, ⟨22, true, _, _⟩, ⟨61, true, _, _⟩, ⟨62, true, _, _⟩, ⟨83, true, _, _⟩] [⟨10, _, _⟩, ⟨11, _, _⟩, ⟨33, _, _⟩, ⟨6, _, _⟩, ⟨60, _, _⟩] (fun j => [⟨23, true, [], kI (j : Int)⟩]) (fun j => [⟨32, [], cArr false 4 eBool (seenB o.1.length ((ph2 o m k).1 ++ (rowsT o (nth (nth (cyR o) k) 0) i).flatten ++ (rowU o (nth (nth (cyR o) k) 0) i).take j)) o.1.length⟩]) (fun j => j ≤ (rowU o (nth (nth (cyR o) k) 0) i).length) (fun j => j = (rowU o (nth (nth (cyR o) k) 0) i).length) (fun j => (rowU o (nth (nth (cyR o) k) 0) i).length - j) (0) (Nat.zero_le _) (Ent.mk (.i rfl (by first | rfl | omega | (simp; done) | (simp; omega) | assumption) <| .k rfl rfl <| .k rfl rfl <| .k rfl rfl <| .k rfl rfl <| .k rfl rfl <| .k rfl rfl <| .k rfl rfl <| .k rfl rfl <| .k rfl rfl <| .k rfl rfl <| .k rfl rfl <| .nil) (.a (by rw [List.take_zero, List.append_nil]) (by first | rfl | omega | (simp; done) | (simp; omega) | assumption) <| .k rfl <| .k rfl <| .k rfl <| .k rfl <| .k rfl <| .nil) rfl) ?_ ?_
                  · intro j hR1
                    refine Tr.norm (S' := [⟨23, true, _, _⟩, ⟨1, true, _, _⟩, ⟨2, true, _, _⟩, ⟨3, true, _, _⟩, ⟨4, true, _, _⟩, ⟨6, true, _, _⟩, ⟨7, true, _, _⟩, ⟨21, true, _, _⟩, ⟨22, true, _, _⟩, ⟨61, true, _, _⟩, ⟨62, true, _, _⟩, ⟨83, true, _, _⟩]) (M' := [⟨32, _, _⟩, ⟨10, _, _⟩, ⟨11, _, _⟩, ⟨33, _, _⟩, ⟨6, _, _⟩, ⟨60, _, _⟩]) rfl rfl ?_
                    refine Tr.seq ?_
                    refine Tr.rg ?_
                    refine TrL.op (ok_lss rfl (fun _ => rfl) rfl (fun _ => rfl)) rfl rfl ?_
                    refine TrL.fin ?_
                    refine End.nxt ?_
                    refine Tr.seq ?_
                    refine Tr.cnd rfl ?_ ?_
                    · intro h4
                      replace h4 := of_decide_eq_true h4
                      refine Tr.skip ?_
                      refine End.nxt ?_
                      refine Tr.seq ?_
                      refine Tr.blk ?_
                      refine Tr.seq ?_
                      refine Tr.rg ?_
                      first | refine TrL.op (ok_idxN rfl (fun _ => rfl) rfl (fun _ => rfl) rfl (fun _ => by omega)) rfl rfl ?_ | refine TrL.op (ok_idxP rfl (fun _ => rfl) rfl (fun _ => rfl) rfl (fun _ => by omega)) rfl rfl ?_
                      refine TrL.op (ok_ldP rfl (fun _ => rfl) rfl) rfl rfl ?_
                      refine TrL.op (ok_assign rfl (fun _ => rfl)) rfl rfl ?_
                      refine TrL.fin ?_
                      refine End.nxt ?_
                      refine Tr.rg ?_
                      have hje := rowU_sq v hx _ (nth_mem (xs := (rowU o (nth (nth (cyR o) k) 0) i)) (i := j) (by omega))
                      have hje0 := hje.1
                      have hje1 := hje.2
                      refine TrL.op (ok_ldB rfl (fun _ => rfl) rfl) rfl rfl ?_
                      refine TrL.op (ok_move rfl (fun _ => rfl)) rfl rfl ?_
                      first | refine TrL.op (ok_idxEN rfl (fun _ => rfl) rfl (fun _ => rfl) (fun _ => by omega)) rfl rfl ?_ | refine TrL.op (ok_idxE rfl (fun _ => rfl) rfl (fun _ => rfl) (fun _ => by omega)) rfl rfl ?_
                      refine TrL.stE rfl rfl rfl rfl rfl ?_
                      refine TrL.fin ?_
                      refine End.blk ?_
                      refine End.nxt ?_
                      refine Tr.rg ?_
                      refine TrL.op (ok_add rfl (fun _ => rfl) rfl (fun _ => rfl) (fun _ => by omega)) rfl rfl ?_
                      refine TrL.op (ok_move rfl (fun _ => rfl)) rfl rfl ?_
                      refine TrL.fin ?_
                      exact End.lp (j + 1) (by first | rfl | omega | (simp; done) | (simp; omega) | assumption) (by omega) (Ent.mk (.i rfl (by first | rfl | omega | (simp; done) | (simp; omega) | assumption) <| .k rfl rfl <| .k rfl rfl <| .k rfl rfl <| .k rfl rfl <| .k rfl rfl <| .k rfl rfl <| .k rfl rfl <| .k rfl rfl <| .k rfl rfl <| .k rfl rfl <| .k rfl rfl <| .nil) (.a (by rw [take_succ_nth (by omega), seenB_set hje0, List.append_assoc]) (by first | rfl | omega | (simp; done) | (simp; omega) | assumption) <| .k rfl <| .k rfl <| .k rfl <| .k rfl <| .k rfl <| .nil) rfl)
                    · intro h4
                      replace h4 := Int.not_lt.1 (of_decide_eq_false h4)
                      refine Tr.exit ?_
                      refine Exs.thn ?_
                      refine Exs.thn ?_
                      refine Exs.here ?_
                      exact End.cut (j) (by omega) (Ent.mk (.i rfl (by first | rfl | omega | (simp; done) | (simp; omega) | assumption) <| .k rfl rfl <| .k rfl rfl <| .k rfl rfl <| .k rfl rfl <| .k rfl rfl <| .k rfl rfl <| .k rfl rfl <| .k rfl rfl <| .k rfl rfl <| .k rfl rfl <| .k rfl rfl <| .nil) (.a (by first | rfl | omega | (simp; done) | (simp; omega) | assumption) (by first | rfl | omega | (simp; done) | (simp; omega) | assumption) <| .k rfl <| .k rfl <| .k rfl <| .k rfl <| .k rfl <| .nil) rfl)
                  · rintro _ rfl
                    refine End.norm (S' := [⟨23, true, _, _⟩, ⟨1, true, _, _⟩, ⟨2, true, _, _⟩, ⟨3, true, _, _⟩, ⟨4, true, _, _⟩, ⟨6, true, _, _⟩, ⟨7, true, _, _⟩, ⟨21, true, _, _⟩, ⟨22, true, _, _⟩, ⟨61, true, _, _⟩, ⟨62, true, _, _⟩, ⟨83, true, _, _⟩]) (M' := [⟨32, _, _⟩, ⟨10, _, _⟩, ⟨11, _, _⟩, ⟨33, _, _⟩, ⟨6, _, _⟩, ⟨60, _, _⟩]) rfl rfl ?_
                    refine End.nxt ?_
                    refine Tr.seq ?_
                    refine Tr.rg ?_
                    refine TrL.op (ok_fldO rfl (fun _ => rfl)) rfl rfl ?_
                    refine TrL.op (ok_ldB rfl (fun _ => rfl) rfl) rfl rfl ?_
                    refine TrL.op (ok_move rfl (fun _ => rfl)) rfl rfl ?_
                    refine TrL.new (ok_bsl (eL eI) 34 (fun hp => .cons rfl <| .nil) rfl rfl rfl rfl) rfl rfl rfl rfl ?_
                    refine TrL.wkC 6 (.k <| .k <| .any <| .nil) rfl ?_
                    refine TrL.app rfl rfl rfl rfl rfl rfl rfl rfl (by first | omega | (simp only [List.length_cons, List.length_nil]; omega)) (by first | omega | (simp only [List.length_cons, List.length_nil]; omega)) ?_
                    refine TrL.norm (S' := [⟨_, _, _, _⟩, ⟨_, _, _, _⟩, ⟨_, _, _, _⟩, ⟨_, _, _, _⟩, ⟨_, _, _, _⟩, ⟨_, _, _, _⟩, ⟨_, _, _, _⟩, ⟨_, _, _, _⟩, ⟨_, _, _, _⟩, ⟨_, _, _, _⟩, ⟨_, _, _, _⟩, ⟨_, _, _, _⟩, ⟨_, _, _, _⟩, ⟨_, _, _, _⟩, ⟨_, _, _, _⟩, ⟨_, _, _, _⟩, ⟨_, _, _, _⟩]) rfl rfl ?_
                    refine TrL.op (ok_fldO rfl (fun _ => rfl)) rfl rfl ?_
                    refine TrL.stB rfl rfl rfl rfl ?_
                    refine TrL.fin ?_
                    refine End.nxt ?_
                    refine Tr.seq ?_
                    refine Tr.rg ?_
                    refine TrL.op (ok_ldPA rfl (fun _ => rfl) rfl rfl) rfl rfl ?_
                    refine TrL.op (ok_move rfl (fun _ => rfl)) rfl rfl ?_
                    refine TrL.op (ok_call (fun hp => ct_above o (rowU o (nth (nth (cyR o) k) 0) i) (fun y hy => by have h := rowU_sq v hx y hy; exact ⟨h.1, by have := v.len; have := h.2; omega⟩) (by omega)) (.a rfl (fun _ => rfl) <| .a rfl (fun _ => rfl) <| .nil)) rfl rfl ?_
                    refine TrL.op (ok_assign rfl (fun _ => rfl)) rfl rfl ?_
                    refine TrL.fin ?_
                    refine End.nxt ?_
                    refine Tr.seq ?_
                    refine Tr.rg ?_
                    refine TrL.op (ok_ldP rfl (fun _ => rfl) rfl) rfl rfl ?_
                    refine TrL.op (ok_move rfl (fun _ => rfl)) rfl rfl ?_
                    refine TrL.op (ok_callK rfl (fun _ => rfl) (fun hp => ct_cyl1 (abvL o (rowU o (nth (nth (cyR o) k) 0) i)) m (ordV o) (fun y hy => by have h := abv_sq v (rowU_sq v hx) y hy; exact ⟨h.1, by rw [hoL]; exact h.2⟩)) (.a rfl (fun _ => rfl) <| .nil)) rfl rfl ?_
                    refine TrL.fin ?_
                    refine End.nxt ?_
                    refine Tr.cnd rfl ?_ ?_
                    · intro h10
                      rw [bnd_row v hx] at h10
                      refine Tr.exit ?_
                      refine Exs.out rfl ?_
                      refine Exs.thn ?_
                      refine Exs.here ?_
                      exact End.cut ((i + 1, abvL o (rowU o (nth (nth (cyR o) k) 0) i))) (hst.gs.end1 hx hxm hs1 h10) (Ent.mk (.r rfl (by first | rfl | omega | (simp; done) | (simp; omega) | assumption) <| .k rfl rfl <| .k rfl rfl <| .k rfl rfl <| .k rfl rfl <| .k rfl rfl <| .k rfl rfl <| .k rfl rfl <| .k rfl rfl <| .nil) (.e (by rfl) rfl <| .a (by rw [rowsT_succ]) (by first | rfl | omega | (simp; done) | (simp; omega) | assumption) <| .a (by rw [List.take_length, rowsT_flat, List.append_assoc]) (by first | rfl | omega | (simp; done) | (simp; omega) | assumption) <| .k rfl <| .k rfl <| .k rfl <| .nil) rfl)
                    · intro h10
                      rw [bnd_row v hx] at h10
                      have hnx := rowU_next v hx (by rw [rowU_pos v hx]; exact (Bool.or_eq_false_iff.1 h10).2)
                      refine Tr.skip ?_
                      refine End.blk ?_
                      exact End.lp ((i + 1, (rowU o (nth (nth (cyR o) k) 0) (i + 1)))) ⟨rfl, hs1, fun _ => h10⟩ (show o.1.length + 1 - (i + 1) < o.1.length + 1 - i by omega) (Ent.mk (.r rfl hnx <| .k rfl rfl <| .k rfl rfl <| .k rfl rfl <| .k rfl rfl <| .k rfl rfl <| .k rfl rfl <| .k rfl rfl <| .k rfl rfl <| .nil) (.e (by rfl) rfl <| .a (by rw [rowsT_succ]) (by first | rfl | omega | (simp; done) | (simp; omega) | assumption) <| .a (by rw [List.take_length, rowsT_flat, List.append_assoc]) (by first | rfl | omega | (simp; done) | (simp; omega) | assumption) <| .k rfl <| .k rfl <| .k rfl <| .nil) rfl)
                · intro h2
                  rw [nth_seenB' hy0 hy1, hu0] at h2
                  simp only [Bool.not_eq_false', decide_eq_true_eq] at h2
                  refine Tr.exit ?_
                  refine Exs.thn ?_
                  refine Exs.thn ?_
                  refine Exs.here ?_
                  exact End.cut ((i, (rowU o (nth (nth (cyR o) k) 0) i))) (hst.gs.end0 hx hxm hs h2) (Ent.mk (.r rfl (by first | rfl | omega | (simp; done) | (simp; omega) | assumption) <| .k rfl rfl <| .k rfl rfl <| .k rfl rfl <| .k rfl rfl <| .k rfl rfl <| .k rfl rfl <| .k rfl rfl <| .k rfl rfl <| .nil) (.k rfl <| .a (by first | rfl | omega | (simp; done) | (simp; omega) | assumption) (by first | rfl | omega | (simp; done) | (simp; omega) | assumption) <| .a (by first | rfl | omega | (simp; done) | (simp; omega) | assumption) (by first | rfl | omega | (simp; done) | (simp; omega) | assumption) <| .k rfl <| .k rfl <| .k rfl <| .nil) rfl)
              · rintro ⟨_, nx⟩ rfl
                refine End.norm (S' := [⟨7, true, _, _⟩, ⟨1, true, _, _⟩, ⟨2, true, _, _⟩, ⟨3, true, _, _⟩, ⟨4, true, _, _⟩, ⟨6, true, _, _⟩, ⟨61, true, _, _⟩, ⟨62, true, _, _⟩, ⟨83, true, _, _⟩]) (M' := [⟨6, _, _⟩, ⟨60, _, _⟩, ⟨32, _, _⟩, ⟨10, _, _⟩, ⟨11, _, _⟩, ⟨33, _, _⟩]) rfl rfl ?_
                have hhl := hst.gs.le hx hxm (m := m)
                refine End.nxt ?_
                refine Tr.seq ?_
                refine Tr.rg ?_
                refine TrL.op (ok_fldO rfl (fun _ => rfl)) rfl rfl ?_
                refine TrL.op (ok_ldB rfl (fun _ => rfl) rfl) rfl rfl ?_
                refine TrL.op (ok_lenO rfl (fun _ => rfl)) rfl rfl ?_
                refine TrL.op (ok_fldO rfl (fun _ => rfl)) rfl rfl ?_
                refine TrL.stB rfl rfl rfl rfl ?_
                refine TrL.fin ?_
                refine End.nxt ?_
                refine Tr.frzC 60 6 (by simp only [lenMax]; omega) rfl rfl ?_
                refine Tr.rg ?_
                refine TrL.op (ok_ldB rfl (fun _ => rfl) rfl) rfl rfl ?_
                refine TrL.op (ok_ldBS rfl (fun _ => rfl)) rfl rfl ?_
                refine TrL.new (ok_bsl eBand 49 (fun hp => .cons rfl <| .nil) rfl rfl rfl rfl) rfl rfl rfl rfl ?_
                refine TrL.wkC 11 (.any <| .nil) rfl ?_
                refine TrL.app rfl rfl rfl rfl rfl rfl rfl rfl (by first | omega | (simp only [List.length_cons, List.length_nil]; omega)) (by first | omega | (simp only [List.length_cons, List.length_nil]; omega)) ?_
                refine TrL.norm (S' := [⟨_, _, _, _⟩, ⟨_, _, _, _⟩, ⟨_, _, _, _⟩, ⟨_, _, _, _⟩, ⟨_, _, _, _⟩, ⟨_, _, _, _⟩, ⟨_, _, _, _⟩, ⟨_, _, _, _⟩, ⟨_, _, _, _⟩, ⟨_, _, _, _⟩, ⟨_, _, _, _⟩, ⟨_, _, _, _⟩, ⟨_, _, _, _⟩, ⟨_, _, _, _⟩, ⟨_, _, _, _⟩, ⟨_, _, _, _⟩, ⟨_, _, _, _⟩]) rfl rfl ?_
                refine TrL.stB rfl rfl rfl rfl ?_
                refine TrL.fin ?_
                exact End.inlE (n := 51) (bks := bks19) rfl (Ent.mk (.k rfl rfl <| .k rfl rfl <| .k rfl rfl <| .nil) (.k rfl <| .e (by rw [grw2]; rfl) rfl <| .a (by unfold grw; rfl) (by first | rfl | omega | (simp; done) | (simp; omega) | assumption) <| .a (by unfold grw bandG; rw [orb_len]) grw2.symm <| .nil) rfl) (.cons rfl <| .cons rfl <| .cons rfl <| .nil)
            refine TrL.norm (S' := [⟨_, _, _, _⟩, ⟨_, _, _, _⟩, ⟨_, _, _, _⟩, ⟨_, _, _, _⟩, ⟨_, _, _, _⟩, ⟨_, _, _, _⟩, ⟨_, _, _, _⟩, ⟨_, _, _, _⟩, ⟨_, _, _, _⟩, ⟨_, _, _, _⟩, ⟨_, _, _, _⟩, ⟨_, _, _, _⟩, ⟨_, _, _, _⟩, ⟨_, _, _, _⟩, ⟨_, _, _, _⟩, ⟨_, _, _, _⟩, ⟨_, _, _, _⟩, ⟨_, _, _, _⟩, ⟨_, _, _, _⟩, ⟨_, _, _, _⟩, ⟨_, _, _, _⟩]) rfl rfl ?_
            refine TrL.fin ?_
            refine End.blk ?_
            refine End.nxt ?_
            refine Tr.rg ?_
            refine TrL.op (ok_add rfl (fun _ => rfl) rfl (fun _ => rfl) (fun _ => by omega)) rfl rfl ?_
            refine TrL.op (ok_move rfl (fun _ => rfl)) rfl rfl ?_
            refine TrL.fin ?_
            exact End.lp (k + 1) (by first | rfl | omega | (simp; done) | (simp; omega) | assumption) (by omega) (Ent.mk (.i rfl (by first | rfl | omega | (simp; done) | (simp; omega) | assumption) <| .k rfl rfl <| .k rfl rfl <| .k rfl rfl <| .k rfl rfl <| .k rfl rfl <| .nil) (.k rfl <| .e (by rw [ph2_in hb0]) rfl <| .a (by rw [ph2_in hb0]) (by first | rfl | omega | (simp; done) | (simp; omega) | assumption) <| .a (by rw [ph2_in hb0]) (by rw [ph2_in hb0]) <| .nil) rfl)
          · intro h18
            rw [nth_seenB' hx0 hx1] at h18
            simp only [Bool.not_eq_false', decide_eq_true_eq] at h18
            have hb0 := h18
            refine Tr.skip ?_
            refine End.blk ?_
            refine End.nxt ?_
            refine Tr.rg ?_
            refine TrL.op (ok_add rfl (fun _ => rfl) rfl (fun _ => rfl) (fun _ => by omega)) rfl rfl ?_
            refine TrL.op (ok_move rfl (fun _ => rfl)) rfl rfl ?_
            refine TrL.fin ?_
            exact End.lp (k + 1) (by first | rfl | omega | (simp; done) | (simp; omega) | assumption) (by omega) (Ent.mk (.i rfl (by first | rfl | omega | (simp; done) | (simp; omega) | assumption) <| .k rfl rfl <| .k rfl rfl <| .k rfl rfl <| .k rfl rfl <| .k rfl rfl <| .nil) (.k rfl <| .e (by rw [ph2_out hb0]) rfl <| .a (by rw [ph2_out hb0]) (by first | rfl | omega | (simp; done) | (simp; omega) | assumption) <| .a (by rw [ph2_out hb0]) (by rw [ph2_out hb0]) <| .nil) rfl)
        · intro h16
          replace h16 := Int.not_lt.1 (of_decide_eq_false h16)
          refine Tr.exit ?_
          refine Exs.thn ?_
          refine Exs.thn ?_
          refine Exs.here ?_
          exact End.cut (k) (by omega) (Ent.mk (.i rfl (by first | rfl | omega | (simp; done) | (simp; omega) | assumption) <| .k rfl rfl <| .k rfl rfl <| .k rfl rfl <| .k rfl rfl <| .k rfl rfl <| .nil) (.k rfl <| .k rfl <| .a (by first | rfl | omega | (simp; done) | (simp; omega) | assumption) (by first | rfl | omega | (simp; done) | (simp; omega) | assumption) <| .a (by first | rfl | omega | (simp; done) | (simp; omega) | assumption) (by first | rfl | omega | (simp; done) | (simp; omega) | assumption) <| .nil) rfl)
      · rintro _ rfl
        refine End.norm (S' := [⟨53, true, _, _⟩, ⟨10, true, _, _⟩, ⟨11, true, _, _⟩, ⟨12, true, _, _⟩, ⟨51, true, _, _⟩, ⟨52, true, _, _⟩]) (M' := [⟨10, _, _⟩, ⟨11, _, _⟩, ⟨32, _, _⟩, ⟨33, _, _⟩]) rfl rfl ?_
        have hpp : 0 < (ph2 o m (cyR o).length).2.length ∧ (ph2 o m (cyR o).length).2.length ≤ o.1.length := phE_pos v (m := m)
        refine End.nxt ?_
        refine Tr.seq ?_
        refine Tr.rg ?_
        refine TrL.new (ok_alloc 17) rfl rfl rfl rfl ?_
        refine TrL.stB rfl rfl rfl rfl ?_
        refine TrL.fin ?_
        refine End.nxt ?_
        refine Tr.seq ?_
        refine Tr.frzB 17 [17] (eFn (kDet (.func (.func 48) #[] #[]))) ⟨rfl, trivial⟩ rfl ?_
        refine Tr.norm (S' := [⟨_, _, _, _⟩, ⟨_, _, _, _⟩, ⟨_, _, _, _⟩, ⟨_, _, _, _⟩, ⟨_, _, _, _⟩, ⟨_, _, _, _⟩, ⟨_, _, _, _⟩, ⟨_, _, _, _⟩]) (M' := [⟨_, _, _⟩, ⟨_, _, _⟩, ⟨_, _, _⟩, ⟨_, _, _⟩]) rfl rfl ?_
        refine Tr.rg ?_
        refine TrL.op (ok_ldB rfl (fun _ => rfl) rfl) rfl rfl ?_
        refine TrL.op (ok_clo (ks := [kPtr (eFn (kDet (.func (.func 48) #[] #[]))) ()]) (.cons rfl (fun _ => rfl) <| .nil)) rfl rfl ?_
        refine TrL.mut (ct_srtB o m v) rfl (.a rfl (fun _ => rfl) <| .nil) (fun _ _ _ _ h => h) (fun _ _ h => by have h2 : _ = 0 := h.2; omega) (fun h => h) rfl ?_
        refine TrL.fin ?_
        refine End.nxt ?_
        refine Tr.seq ?_
        refine Tr.rg ?_
        refine TrL.op (ok_ldB rfl (fun _ => rfl) rfl) rfl rfl ?_
        refine TrL.op (ok_assign rfl (fun _ => rfl)) rfl rfl ?_
        refine TrL.op (ok_assign rfl (fun _ => rfl)) rfl rfl ?_
        refine TrL.fin ?_
        refine End.nxt ?_
        refine Tr.ent (S' := [⟨4, true, _, _⟩, ⟨5, true, _, _⟩]) (M' := [⟨33, _, _⟩]) (Ent.mk (.k rfl rfl <| .k rfl rfl <| .nil) (.k rfl <| .nil) rfl) ?_
        refine Tr.frz 33 [4] ⟨rfl, trivial⟩ (by simp only [lenMax]; omega) rfl ?_
        refine Tr.ret ?_
        exact Rts.res (fn := Tryz.f17) (ts := [4, 5]) rfl rfl (.r rfl (by rw [if_pos h2]) <| .i rfl h2.symm <| .nil)

end Go.Fl
