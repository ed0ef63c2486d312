/- Laws on walking typed knowledge through code, and contracts. -/
import Derived.Test.YtphkjcmonjbpfaaM4
import Derived.Laws.StructEq

/- Contracts: maps that are checked; the law of proofs. -/
namespace Go.Fl
open Go Go.Proofs

set_option maxRecDepth 100000 in
theorem ct_IndexFunc (xs : List Int) (f : FuncId) (q : Int → Bool) [TyFn Try.prog f] (hf : ∀ x, Ct Try.prog f [kI x] (kB (q x))) : Ct Try.prog 126 [kRd (eL eI) xs, kDet (.func (.func f) #[] #[])] (kI (idxF q xs)) := by
  refine Ct.mk Try.func126 rfl Try.ntmps126 rfl (fun w J => ?_)
  refine Tr.fact (s := 0) rfl (fun _ _ h => lenB h) (fun hb => ?_)
  refine Tr.seq ?_
  refine Tr.rg ?_
  refine TrL.op (ok_assign rfl (fun _ => rfl)) rfl rfl ?_
  refine TrL.fin ?_
  refine End.nxt ?_
  refine Tr.seq ?_
  refine Tr.seq ?_
  refine Tr.rg ?_
  refine TrL.op (ok_move rfl (fun _ => rfl)) rfl rfl ?_
  refine TrL.op (ok_lenJ rfl (fun _ => rfl)) rfl rfl ?_
  refine TrL.op (ok_move rfl (fun _ => rfl)) rfl rfl ?_
  refine TrL.fin ?_
  refine End.nxt ?_
  refine Tr.for1 (σ := Nat) [⟨0, true, _, _⟩, ⟨1, true, _, _⟩, ⟨7, true, _, _⟩] [] (fun k => [⟨8, true, [], kI (k : Int)⟩]) (fun k => []) (fun k => k ≤ xs.length ∧ ∀ i, i < k → q (nth xs i) = false) (fun k => ∀ i, i < xs.length → q (nth xs i) = false) (fun k => xs.length - k) (0) ⟨Nat.zero_le _, fun i h => absurd h (by omega)⟩ (Ent.mk (.i rfl (by first | rfl | omega | (simp; done) | (simp; omega) | assumption) <| .k rfl rfl <| .k rfl rfl <| .k rfl rfl <| .nil) (.nil) rfl) ?_ ?_
  · rintro k ⟨hk0, hR0⟩
    refine Tr.norm (S' := [⟨8, true, _, _⟩, ⟨0, true, _, _⟩, ⟨1, true, _, _⟩, ⟨7, true, _, _⟩]) (M' := []) rfl rfl ?_
    refine Tr.seq ?_
    refine Tr.rg ?_
    refine TrL.op (ok_lss rfl (fun _ => rfl) rfl (fun _ => rfl)) rfl rfl ?_
    refine TrL.fin ?_
    refine End.nxt ?_
    refine Tr.seq ?_
    refine Tr.cnd rfl ?_ ?_
    · intro h2
      replace h2 := of_decide_eq_true h2
      refine Tr.skip ?_
      refine End.nxt ?_
      refine Tr.seq ?_
      refine Tr.blk ?_
      refine Tr.seq ?_
      refine Tr.rg ?_
      refine TrL.op (ok_move rfl (fun _ => rfl)) rfl rfl ?_
      refine TrL.op (ok_assign rfl (fun _ => rfl)) rfl rfl ?_
      refine TrL.fin ?_
      refine End.nxt ?_
      refine Tr.seq ?_
      refine Tr.rg ?_
      refine TrL.op (ok_move rfl (fun _ => rfl)) rfl rfl ?_
      refine TrL.op (ok_move rfl (fun _ => rfl)) rfl rfl ?_
      refine TrL.op (ok_move rfl (fun _ => rfl)) rfl rfl ?_
      first | refine TrL.op (ok_idxN rfl (fun _ => rfl) rfl (fun _ => rfl) rfl (fun _ => by omega)) rfl rfl ?_ | refine TrL.op (ok_idxP rfl (fun _ => rfl) rfl (fun _ => rfl) rfl (fun _ => by omega)) rfl rfl ?_
      refine TrL.op (ok_ldP rfl (fun _ => rfl) rfl) rfl rfl ?_
      refine TrL.op (ok_callV rfl (fun _ => rfl) (fun hp => hf _) (.a rfl (fun _ => rfl) <| .nil)) rfl rfl ?_
      refine TrL.fin ?_
      refine End.nxt ?_
      refine Tr.cnd rfl ?_ ?_
      · intro h4
        refine Tr.seq ?_
        refine Tr.rg ?_
        refine TrL.op (ok_move rfl (fun _ => rfl)) rfl rfl ?_
        refine TrL.op (ok_assign rfl (fun _ => rfl)) rfl rfl ?_
        refine TrL.fin ?_
        refine End.nxt ?_
        refine Tr.ret ?_
        refine Rts.out ?_
        refine Rts.thn ?_
        refine Rts.thn ?_
        refine Rts.out ?_
        refine Rts.thn ?_
        refine Rts.thn ?_
        exact Rts.res1 (fn := Try.f126) rfl (.i rfl (idxF_at (by omega) hR0 h4) <| .nil)
      · intro h4
        refine Tr.skip ?_
        refine End.blk ?_
        refine End.nxt ?_
        refine Tr.rg ?_
        refine TrL.op (ok_add rfl (fun _ => rfl) rfl (fun _ => rfl) (fun _ => by omega)) rfl rfl ?_
        refine TrL.op (ok_move rfl (fun _ => rfl)) rfl rfl ?_
        refine TrL.fin ?_
        exact End.lp (k + 1) ⟨by omega, all_succ hR0 h4⟩ (by omega) (Ent.mk (.i rfl (by first | rfl | omega | (simp; done) | (simp; omega) | assumption) <| .k rfl rfl <| .k rfl rfl <| .k rfl rfl <| .nil) (.nil) rfl)
    · intro h2
      replace h2 := Int.not_lt.1 (of_decide_eq_false h2)
      refine Tr.exit ?_
      refine Exs.thn ?_
      refine Exs.thn ?_
      refine Exs.here ?_
      exact End.cut (k) (fun i hi => hR0 i (by omega)) (Ent.mk (.i rfl (by first | rfl | omega | (simp; done) | (simp; omega) | assumption) <| .k rfl rfl <| .k rfl rfl <| .k rfl rfl <| .nil) (.nil) rfl)
  · intro k hE0
    refine End.norm (S' := [⟨8, true, _, _⟩, ⟨0, true, _, _⟩, ⟨1, true, _, _⟩, ⟨7, true, _, _⟩]) (M' := []) rfl rfl ?_
    refine End.nxt ?_
    refine Tr.seq ?_
    refine Tr.rg ?_
    refine TrL.op (ok_assign rfl (fun _ => rfl)) rfl rfl ?_
    refine TrL.fin ?_
    refine End.nxt ?_
    refine Tr.ret ?_
    exact Rts.res1 (fn := Try.f126) rfl (.i rfl (idxF_none hE0) <| .nil)

set_option maxRecDepth 100000 in
theorem ct_IndexB (xs : List Bool) (v : Bool) : Ct Try.prog 130 [kRd (eL eBool) xs, kB v] (kI (idxF (fun x => decide (v = x)) xs)) := by
  refine Ct.mk Try.func130 rfl Try.ntmps130 rfl (fun w J => ?_)
  refine Tr.fact (s := 0) rfl (fun _ _ h => lenB h) (fun hb => ?_)
  refine Tr.seq ?_
  refine Tr.rg ?_
  refine TrL.op (ok_assign rfl (fun _ => rfl)) rfl rfl ?_
  refine TrL.fin ?_
  refine End.nxt ?_
  refine Tr.seq ?_
  refine Tr.seq ?_
  refine Tr.rg ?_
  refine TrL.op (ok_move rfl (fun _ => rfl)) rfl rfl ?_
  refine TrL.op (ok_lenJ rfl (fun _ => rfl)) rfl rfl ?_
  refine TrL.op (ok_move rfl (fun _ => rfl)) rfl rfl ?_
  refine TrL.fin ?_
  refine End.nxt ?_
  refine Tr.for1 (σ := Nat) [⟨0, true, _, _⟩, ⟨1, true, _, _⟩, ⟨7, true, _, _⟩] [] (fun k => [⟨8, true, [], kI (k : Int)⟩]) (fun k => []) (fun k => k ≤ xs.length ∧ ∀ i, i < k → (fun x => decide (v = x)) (nth xs i) = false) (fun k => ∀ i, i < xs.length → (fun x => decide (v = x)) (nth xs i) = false) (fun k => xs.length - k) (0) ⟨Nat.zero_le _, fun i h => absurd h (by omega)⟩ (Ent.mk (.i rfl (by first | rfl | omega | (simp; done) | (simp; omega) | assumption) <| .k rfl rfl <| .k rfl rfl <| .k rfl rfl <| .nil) (.nil) rfl) ?_ ?_
  · rintro k ⟨hk0, hR0⟩
    refine Tr.norm (S' := [⟨8, true, _, _⟩, ⟨0, true, _, _⟩, ⟨1, true, _, _⟩, ⟨7, true, _, _⟩]) (M' := []) rfl rfl ?_
    refine Tr.seq ?_
    refine Tr.rg ?_
    refine TrL.op (ok_lss rfl (fun _ => rfl) rfl (fun _ => rfl)) rfl rfl ?_
    refine TrL.fin ?_
    refine End.nxt ?_
    refine Tr.seq ?_
    refine Tr.cnd rfl ?_ ?_
    · intro h2
      replace h2 := of_decide_eq_true h2
      refine Tr.skip ?_
      refine End.nxt ?_
      refine Tr.seq ?_
      refine Tr.blk ?_
      refine Tr.seq ?_
      refine Tr.rg ?_
      refine TrL.op (ok_move rfl (fun _ => rfl)) rfl rfl ?_
      refine TrL.op (ok_assign rfl (fun _ => rfl)) rfl rfl ?_
      refine TrL.fin ?_
      refine End.nxt ?_
      refine Tr.seq ?_
      refine Tr.rg ?_
      refine TrL.op (ok_move rfl (fun _ => rfl)) rfl rfl ?_
      refine TrL.op (ok_move rfl (fun _ => rfl)) rfl rfl ?_
      refine TrL.op (ok_move rfl (fun _ => rfl)) rfl rfl ?_
      first | refine TrL.op (ok_idxN rfl (fun _ => rfl) rfl (fun _ => rfl) rfl (fun _ => by omega)) rfl rfl ?_ | refine TrL.op (ok_idxP rfl (fun _ => rfl) rfl (fun _ => rfl) rfl (fun _ => by omega)) rfl rfl ?_
      refine TrL.op (ok_ldP rfl (fun _ => rfl) rfl) rfl rfl ?_
      refine TrL.op (ok_eqlB rfl (fun _ => rfl) rfl (fun _ => rfl)) rfl rfl ?_
      refine TrL.fin ?_
      refine End.nxt ?_
      refine Tr.cnd rfl ?_ ?_
      · intro h4
        refine Tr.seq ?_
        refine Tr.rg ?_
        refine TrL.op (ok_move rfl (fun _ => rfl)) rfl rfl ?_
        refine TrL.op (ok_assign rfl (fun _ => rfl)) rfl rfl ?_
        refine TrL.fin ?_
        refine End.nxt ?_
        refine Tr.ret ?_
        refine Rts.out ?_
        refine Rts.thn ?_
        refine Rts.thn ?_
        refine Rts.out ?_
        refine Rts.thn ?_
        refine Rts.thn ?_
        exact Rts.res1 (fn := Try.f130) rfl (.i rfl (idxF_at (q := fun x => decide (v = x)) (by omega) hR0 h4) <| .nil)
      · intro h4
        refine Tr.skip ?_
        refine End.blk ?_
        refine End.nxt ?_
        refine Tr.rg ?_
        refine TrL.op (ok_add rfl (fun _ => rfl) rfl (fun _ => rfl) (fun _ => by omega)) rfl rfl ?_
        refine TrL.op (ok_move rfl (fun _ => rfl)) rfl rfl ?_
        refine TrL.fin ?_
        exact End.lp (k + 1) ⟨by omega, all_succ hR0 h4⟩ (by omega) (Ent.mk (.i rfl (by first | rfl | omega | (simp; done) | (simp; omega) | assumption) <| .k rfl rfl <| .k rfl rfl <| .k rfl rfl <| .nil) (.nil) rfl)
    · intro h2
      replace h2 := Int.not_lt.1 (of_decide_eq_false h2)
      refine Tr.exit ?_
      refine Exs.thn ?_
      refine Exs.thn ?_
      refine Exs.here ?_
      exact End.cut (k) (fun i hi => hR0 i (by omega)) (Ent.mk (.i rfl (by first | rfl | omega | (simp; done) | (simp; omega) | assumption) <| .k rfl rfl <| .k rfl rfl <| .k rfl rfl <| .nil) (.nil) rfl)
  · intro k hE0
    refine End.norm (S' := [⟨8, true, _, _⟩, ⟨0, true, _, _⟩, ⟨1, true, _, _⟩, ⟨7, true, _, _⟩]) (M' := []) rfl rfl ?_
    refine End.nxt ?_
    refine Tr.seq ?_
    refine Tr.rg ?_
    refine TrL.op (ok_assign rfl (fun _ => rfl)) rfl rfl ?_
    refine TrL.fin ?_
    refine End.nxt ?_
    refine Tr.ret ?_
    exact Rts.res1 (fn := Try.f130) rfl (.i rfl (idxF_none (q := fun x => decide (v = x)) hE0) <| .nil)

set_option maxRecDepth 100000 in
theorem ct_ContainsB (xs : List Bool) (v : Bool) : Ct Try.prog 119 [kRd (eL eBool) xs, kB v] (kB (xs.any fun x => decide (v = x))) := by
  refine Ct.mk Try.func119 rfl Try.ntmps119 rfl (fun w J => ?_)
  refine Tr.seq ?_
  refine Tr.rg ?_
  refine TrL.op (ok_assign rfl (fun _ => rfl)) rfl rfl ?_
  refine TrL.fin ?_
  refine End.nxt ?_
  refine Tr.seq ?_
  refine Tr.rg ?_
  refine TrL.op (ok_move rfl (fun _ => rfl)) rfl rfl ?_
  refine TrL.op (ok_move rfl (fun _ => rfl)) rfl rfl ?_
  refine TrL.op (ok_call (fun hp => ct_IndexB _ _) (.a rfl (fun _ => rfl) <| .a rfl (fun _ => rfl) <| .nil)) rfl rfl ?_
  refine TrL.op (ok_geq rfl (fun _ => rfl) rfl (fun _ => rfl)) rfl rfl ?_
  refine TrL.op (ok_assign rfl (fun _ => rfl)) rfl rfl ?_
  refine TrL.fin ?_
  refine End.nxt ?_
  refine Tr.ret ?_
  exact Rts.res1 (fn := Try.f119) rfl (.b rfl idxF_nonneg <| .nil)

set_option maxRecDepth 100000 in
set_option maxHeartbeats 1000000 in
theorem ct_rIsMap (a b : Ori) (f : List Int) (va : Valid a) (vb : Valid b) (hl : f.length = a.1.length) (hr : inR f b.1.length) : Ct Try.prog 93 [kRd eO a, kRd eO b, kRd (eL eI) f] (kB (isMapB a b f)) := by
  have hva := va.len
  have hvb := vb.len
  have hvl := va.le
  refine Ct.mk Try.func93 rfl Try.ntmps93 rfl (fun w J => ?_)
  refine Tr.seq ?_
  refine Tr.rg ?_
  refine TrL.new (ok_box 3 rfl (fun _ => rfl) rfl) rfl rfl rfl rfl ?_
  refine TrL.new (ok_box 4 rfl (fun _ => rfl) rfl) rfl rfl rfl rfl ?_
  refine TrL.op (ok_assign rfl (fun _ => rfl)) rfl rfl ?_
  refine TrL.fin ?_
  refine End.nxt ?_
  refine Tr.seq ?_
  refine Tr.seq ?_
  refine Tr.rg ?_
  refine TrL.op (ok_assign rfl (fun _ => rfl)) rfl rfl ?_
  refine TrL.fin ?_
  refine End.nxt ?_
  refine Tr.for1 (σ := Nat) [⟨2, true, _, _⟩, ⟨3, true, _, _⟩, ⟨4, true, _, _⟩] [⟨3, _, _⟩, ⟨4, _, _⟩] (fun k => [⟨7, true, [], kI (k : Int)⟩]) (fun k => []) (fun k => k ≤ a.1.length ∧ ∀ i, i < k → (ap f (nth a.1 i) = ap b.1 (nth f i) ∧ ap f (nth a.2 i) = ap b.2 (nth f i))) (fun k => ∀ i, i < a.1.length → (ap f (nth a.1 i) = ap b.1 (nth f i) ∧ ap f (nth a.2 i) = ap b.2 (nth f i))) (fun k => a.1.length - k) (0) ⟨Nat.zero_le _, fun i h => absurd h (by omega)⟩ (Ent.mk (.i rfl (by first | rfl | omega | (simp; done) | (simp; omega) | assumption) <| .k rfl rfl <| .k rfl rfl <| .k rfl rfl <| .nil) (.k rfl <| .k rfl <| .nil) rfl) ?_ ?_
  · rintro k ⟨hk0, hR0⟩
    refine Tr.norm (S' := [⟨7, true, _, _⟩, ⟨2, true, _, _⟩, ⟨3, true, _, _⟩, ⟨4, true, _, _⟩]) (M' := [⟨3, _, _⟩, ⟨4, _, _⟩]) rfl rfl ?_
    refine Tr.seq ?_
    refine Tr.seq ?_
    refine Tr.rg ?_
    refine TrL.op (ok_move rfl (fun _ => rfl)) rfl rfl ?_
    refine TrL.op (ok_ldBS rfl (fun _ => rfl)) rfl rfl ?_
    refine TrL.op (ok_call (fun hp => ct_rSize _) (.s rfl (fun _ => rfl) rfl <| .nil)) rfl rfl ?_
    refine TrL.op (ok_lss rfl (fun _ => rfl) rfl (fun _ => rfl)) rfl rfl ?_
    refine TrL.fin ?_
    refine End.nxt ?_
    refine Tr.cnd rfl ?_ ?_
    · intro h2
      replace h2 := of_decide_eq_true h2
      refine Tr.skip ?_
      refine End.nxt ?_
      refine Tr.seq ?_
      refine Tr.blk ?_
      refine Tr.seq ?_
      refine Tr.draw 34 mixed (by kernel_rfl) ?_
      have a1 := va.ri (i := k) (by omega)
      have a2 := va.ui (i := k) (by omega)
      have a3 := hr k (by omega)
      have a4 := hr (nth a.1 k).toNat (by omega)
      have a5 := hr (nth a.2 k).toNat (by omega)
      refine RunD.op (ok_move rfl (fun _ => rfl)) rfl rfl ?_
      refine RunD.op (ok_fldO rfl (fun _ => rfl)) rfl rfl ?_
      refine RunD.op (ok_ldB rfl (fun _ => rfl) rfl) rfl rfl ?_
      refine RunD.op (ok_move rfl (fun _ => rfl)) rfl rfl ?_
      first | refine RunD.op (ok_idxN rfl (fun _ => rfl) rfl (fun _ => rfl) rfl (fun _ => by omega)) rfl rfl ?_ | refine RunD.op (ok_idxP rfl (fun _ => rfl) rfl (fun _ => rfl) rfl (fun _ => by omega)) rfl rfl ?_
      refine RunD.op (ok_ldP rfl (fun _ => rfl) rfl) rfl rfl ?_
      first | refine RunD.op (ok_idxN rfl (fun _ => rfl) rfl (fun _ => rfl) rfl (fun _ => by omega)) rfl rfl ?_ | refine RunD.op (ok_idxP rfl (fun _ => rfl) rfl (fun _ => rfl) rfl (fun _ => by omega)) rfl rfl ?_
      refine RunD.op (ok_ldP rfl (fun _ => rfl) rfl) rfl rfl ?_
      refine RunD.op (ok_fldO rfl (fun _ => rfl)) rfl rfl ?_
      refine RunD.op (ok_ldB rfl (fun _ => rfl) rfl) rfl rfl ?_
      refine RunD.op (ok_move rfl (fun _ => rfl)) rfl rfl ?_
      refine RunD.op (ok_move rfl (fun _ => rfl)) rfl rfl ?_
      first | refine RunD.op (ok_idxN rfl (fun _ => rfl) rfl (fun _ => rfl) rfl (fun _ => by omega)) rfl rfl ?_ | refine RunD.op (ok_idxP rfl (fun _ => rfl) rfl (fun _ => rfl) rfl (fun _ => by omega)) rfl rfl ?_
      refine RunD.op (ok_ldP rfl (fun _ => rfl) rfl) rfl rfl ?_
      first | refine RunD.op (ok_idxN rfl (fun _ => rfl) rfl (fun _ => rfl) rfl (fun _ => by omega)) rfl rfl ?_ | refine RunD.op (ok_idxP rfl (fun _ => rfl) rfl (fun _ => rfl) rfl (fun _ => by omega)) rfl rfl ?_
      refine RunD.op (ok_ldP rfl (fun _ => rfl) rfl) rfl rfl ?_
      refine RunD.op (ok_neq rfl (fun _ => rfl) rfl (fun _ => rfl)) rfl rfl ?_
      refine RunD.op (ok_move rfl (fun _ => rfl)) rfl rfl ?_
      refine RunD.gd rfl rfl rfl (ok_move rfl (fun _ => rfl)) rfl rfl ?_
      refine RunD.gd rfl rfl rfl (ok_fldO rfl (fun _ => rfl)) rfl rfl ?_
      refine RunD.gd rfl rfl rfl (ok_ldB rfl id rfl) rfl rfl ?_
      refine RunD.gd rfl rfl rfl (ok_move rfl (fun _ => rfl)) rfl rfl ?_
      first | refine RunD.gd rfl rfl rfl (ok_idxN rfl id rfl id rfl (fun hp => by simp at hp; omega)) rfl rfl ?_ | refine RunD.gd rfl rfl rfl (ok_idxP rfl id rfl id rfl (fun hp => by simp at hp; omega)) rfl rfl ?_
      refine RunD.gd rfl rfl rfl (ok_ldP rfl id rfl) rfl rfl ?_
      first | refine RunD.gd rfl rfl rfl (ok_idxN rfl id rfl id rfl (fun hp => by simp at hp; omega)) rfl rfl ?_ | refine RunD.gd rfl rfl rfl (ok_idxP rfl id rfl id rfl (fun hp => by simp at hp; omega)) rfl rfl ?_
      refine RunD.gd rfl rfl rfl (ok_ldP rfl id rfl) rfl rfl ?_
      refine RunD.gd rfl rfl rfl (ok_fldO rfl (fun _ => rfl)) rfl rfl ?_
      refine RunD.gd rfl rfl rfl (ok_ldB rfl id rfl) rfl rfl ?_
      refine RunD.gd rfl rfl rfl (ok_move rfl (fun _ => rfl)) rfl rfl ?_
      refine RunD.gd rfl rfl rfl (ok_move rfl (fun _ => rfl)) rfl rfl ?_
      first | refine RunD.gd rfl rfl rfl (ok_idxN rfl id rfl id rfl (fun hp => by simp at hp; omega)) rfl rfl ?_ | refine RunD.gd rfl rfl rfl (ok_idxP rfl id rfl id rfl (fun hp => by simp at hp; omega)) rfl rfl ?_
      refine RunD.gd rfl rfl rfl (ok_ldP rfl id rfl) rfl rfl ?_
      first | refine RunD.gd rfl rfl rfl (ok_idxN rfl id rfl id rfl (fun hp => by simp at hp; omega)) rfl rfl ?_ | refine RunD.gd rfl rfl rfl (ok_idxP rfl id rfl id rfl (fun hp => by simp at hp; omega)) rfl rfl ?_
      refine RunD.gd rfl rfl rfl (ok_ldP rfl id rfl) rfl rfl ?_
      refine RunD.z ?_
      refine TrL.gd rfl rfl rfl (ok_neq rfl id rfl id) rfl rfl ?_
      refine TrL.op (ok_or rfl (fun _ => rfl) rfl (fun hp h => gdF2 ((fun _ => rfl) hp) h)) rfl rfl ?_
      refine TrL.fin ?_
      refine End.nxt ?_
      refine Tr.cnd rfl ?_ ?_
      · intro h4
        refine Tr.seq ?_
        refine Tr.rg ?_
        refine TrL.op (ok_assign rfl (fun _ => rfl)) rfl rfl ?_
        refine TrL.fin ?_
        refine End.nxt ?_
        refine Tr.ret ?_
        refine Rts.out ?_
        refine Rts.thn ?_
        refine Rts.thn ?_
        refine Rts.out ?_
        refine Rts.thn ?_
        refine Rts.thn ?_
        exact Rts.res1 (fn := Try.f93) rfl (.b rfl (isMapB_not (k := k) (by omega) (by unfold ap; simp at h4; intro hh; rcases h4 with h | h; exact h hh.1; exact h hh.2)).symm <| .nil)
      · intro h4
        refine Tr.skip ?_
        refine End.blk ?_
        refine End.nxt ?_
        refine Tr.rg ?_
        refine TrL.op (ok_move rfl (fun _ => rfl)) rfl rfl ?_
        refine TrL.op (ok_add rfl (fun _ => rfl) rfl (fun _ => rfl) (fun _ => by omega)) rfl rfl ?_
        refine TrL.op (ok_assign rfl (fun _ => rfl)) rfl rfl ?_
        refine TrL.fin ?_
        exact End.lp (k + 1) ⟨by omega, all_succ hR0 (by unfold ap; simp at h4; exact h4)⟩ (by omega) (Ent.mk (.i rfl (by first | rfl | omega | (simp; done) | (simp; omega) | assumption) <| .k rfl rfl <| .k rfl rfl <| .k rfl rfl <| .nil) (.k rfl <| .k rfl <| .nil) rfl)
    · intro h2
      replace h2 := Int.not_lt.1 (of_decide_eq_false h2)
      refine Tr.exit ?_
      refine Exs.thn ?_
      refine Exs.thn ?_
      refine Exs.here ?_
      exact End.cut (k) (fun i hi => hR0 i (by omega)) (Ent.mk (.i rfl (by first | rfl | omega | (simp; done) | (simp; omega) | assumption) <| .k rfl rfl <| .k rfl rfl <| .k rfl rfl <| .nil) (.k rfl <| .k rfl <| .nil) rfl)
  · intro k hE0
    refine End.norm (S' := [⟨7, true, _, _⟩, ⟨2, true, _, _⟩, ⟨3, true, _, _⟩, ⟨4, true, _, _⟩]) (M' := [⟨3, _, _⟩, ⟨4, _, _⟩]) rfl rfl ?_
    refine End.nxt ?_
    refine Tr.seq ?_
    refine Tr.rg ?_
    refine TrL.op (ok_assign rfl (fun _ => rfl)) rfl rfl ?_
    refine TrL.fin ?_
    refine End.nxt ?_
    refine Tr.ret ?_
    exact Rts.res1 (fn := Try.f93) rfl (.b rfl (isMapB_all hE0).symm <| .nil)

set_option maxRecDepth 100000 in
theorem ct_rOnto (b : Ori) (f : List Int) (vb : Valid b) : Ct Try.prog 94 [kRd eO b, kRd (eL eI) f] (kB (ontoB b.1.length f)) := by
  have hvl := vb.le
  refine Ct.mk Try.func94 rfl Try.ntmps94 rfl (fun w J => ?_)
  refine Tr.seq ?_
  refine Tr.rg ?_
  refine TrL.new (ok_box 2 rfl (fun _ => rfl) rfl) rfl rfl rfl rfl ?_
  refine TrL.op (ok_assign rfl (fun _ => rfl)) rfl rfl ?_
  refine TrL.fin ?_
  refine End.nxt ?_
  refine Tr.seq ?_
  refine Tr.seq ?_
  refine Tr.rg ?_
  refine TrL.op (ok_assign rfl (fun _ => rfl)) rfl rfl ?_
  refine TrL.fin ?_
  refine End.nxt ?_
  refine Tr.for1 (σ := Nat) [⟨1, true, _, _⟩, ⟨2, true, _, _⟩] [⟨2, _, _⟩] (fun k => [⟨5, true, [], kI (k : Int)⟩]) (fun k => []) (fun k => k ≤ b.1.length ∧ ∀ i, i < k → ((i : Nat) : Int) ∈ f) (fun k => ∀ i, i < b.1.length → ((i : Nat) : Int) ∈ f) (fun k => b.1.length - k) (0) ⟨Nat.zero_le _, fun i h => absurd h (by omega)⟩ (Ent.mk (.i rfl (by first | rfl | omega | (simp; done) | (simp; omega) | assumption) <| .k rfl rfl <| .k rfl rfl <| .nil) (.k rfl <| .nil) rfl) ?_ ?_
  · rintro k ⟨hk0, hR0⟩
    refine Tr.norm (S' := [⟨5, true, _, _⟩, ⟨1, true, _, _⟩, ⟨2, true, _, _⟩]) (M' := [⟨2, _, _⟩]) rfl rfl ?_
    refine Tr.seq ?_
    refine Tr.seq ?_
    refine Tr.rg ?_
    refine TrL.op (ok_move rfl (fun _ => rfl)) rfl rfl ?_
    refine TrL.op (ok_ldBS rfl (fun _ => rfl)) rfl rfl ?_
    refine TrL.op (ok_call (fun hp => ct_rSize _) (.s rfl (fun _ => rfl) rfl <| .nil)) rfl rfl ?_
    refine TrL.op (ok_lss rfl (fun _ => rfl) rfl (fun _ => rfl)) rfl rfl ?_
    refine TrL.fin ?_
    refine End.nxt ?_
    refine Tr.cnd rfl ?_ ?_
    · intro h2
      replace h2 := of_decide_eq_true h2
      refine Tr.skip ?_
      refine End.nxt ?_
      refine Tr.seq ?_
      refine Tr.blk ?_
      refine Tr.seq ?_
      refine Tr.rg ?_
      refine TrL.op (ok_move rfl (fun _ => rfl)) rfl rfl ?_
      refine TrL.op (ok_move rfl (fun _ => rfl)) rfl rfl ?_
      refine TrL.op (ok_call (fun hp => ct_rAt _ _) (.a rfl (fun _ => rfl) <| .a rfl (fun _ => rfl) <| .nil)) rfl rfl ?_
      refine TrL.op (ok_lss rfl (fun _ => rfl) rfl (fun _ => rfl)) rfl rfl ?_
      refine TrL.fin ?_
      refine End.nxt ?_
      refine Tr.cnd rfl ?_ ?_
      · intro h4
        replace h4 := of_decide_eq_true h4
        refine Tr.seq ?_
        refine Tr.rg ?_
        refine TrL.op (ok_assign rfl (fun _ => rfl)) rfl rfl ?_
        refine TrL.fin ?_
        refine End.nxt ?_
        refine Tr.ret ?_
        refine Rts.out ?_
        refine Rts.thn ?_
        refine Rts.thn ?_
        refine Rts.out ?_
        refine Rts.thn ?_
        refine Rts.thn ?_
        exact Rts.res1 (fn := Try.f94) rfl (.b rfl (ontoB_not (k := k) (by omega) (atL_neg.1 h4)).symm <| .nil)
      · intro h4
        replace h4 := Int.not_lt.1 (of_decide_eq_false h4)
        refine Tr.skip ?_
        refine End.blk ?_
        refine End.nxt ?_
        refine Tr.rg ?_
        refine TrL.op (ok_move rfl (fun _ => rfl)) rfl rfl ?_
        refine TrL.op (ok_add rfl (fun _ => rfl) rfl (fun _ => rfl) (fun _ => by omega)) rfl rfl ?_
        refine TrL.op (ok_assign rfl (fun _ => rfl)) rfl rfl ?_
        refine TrL.fin ?_
        exact End.lp (k + 1) ⟨by omega, all_succ hR0 (Classical.not_not.1 (fun hh => absurd (atL_neg.2 hh) (by omega)))⟩ (by omega) (Ent.mk (.i rfl (by first | rfl | omega | (simp; done) | (simp; omega) | assumption) <| .k rfl rfl <| .k rfl rfl <| .nil) (.k rfl <| .nil) rfl)
    · intro h2
      replace h2 := Int.not_lt.1 (of_decide_eq_false h2)
      refine Tr.exit ?_
      refine Exs.thn ?_
      refine Exs.thn ?_
      refine Exs.here ?_
      exact End.cut (k) (fun i hi => hR0 i (by omega)) (Ent.mk (.i rfl (by first | rfl | omega | (simp; done) | (simp; omega) | assumption) <| .k rfl rfl <| .k rfl rfl <| .nil) (.k rfl <| .nil) rfl)
  · intro k hE0
    refine End.norm (S' := [⟨5, true, _, _⟩, ⟨1, true, _, _⟩, ⟨2, true, _, _⟩]) (M' := [⟨2, _, _⟩]) rfl rfl ?_
    refine End.nxt ?_
    refine Tr.seq ?_
    refine Tr.rg ?_
    refine TrL.op (ok_assign rfl (fun _ => rfl)) rfl rfl ?_
    refine TrL.fin ?_
    refine End.nxt ?_
    refine Tr.ret ?_
    exact Rts.res1 (fn := Try.f94) rfl (.b rfl (ontoB_all hE0).symm <| .nil)

set_option maxRecDepth 100000 in
theorem ct_rCheckMap (a b : Ori) (f : List Int) (same : Bool) : Ct Try.prog 45 [kRd eO a, kRd eO b, kRd (eL eI) f, kB same] (kI (cmE a b f same)) := by
  refine Ct.mk Try.func45 rfl Try.ntmps45 rfl (fun w J => ?_)
  refine Tr.fact (s := 2) rfl (fun _ _ h => lenB h) (fun hb => ?_)
  refine Tr.seq ?_
  refine Tr.rg ?_
  refine TrL.new (ok_box 4 rfl (fun _ => rfl) rfl) rfl rfl rfl rfl ?_
  refine TrL.new (ok_box 5 rfl (fun _ => rfl) rfl) rfl rfl rfl rfl ?_
  refine TrL.op (ok_assign rfl (fun _ => rfl)) rfl rfl ?_
  refine TrL.fin ?_
  refine End.nxt ?_
  refine Tr.seq ?_
  refine Tr.seq ?_
  refine Tr.rg ?_
  refine TrL.op (ok_ldBS rfl (fun _ => rfl)) rfl rfl ?_
  refine TrL.op (ok_call (fun hp => ct_rCheck _) (.s rfl (fun _ => rfl) rfl <| .nil)) rfl rfl ?_
  refine TrL.op (ok_assign rfl (fun _ => rfl)) rfl rfl ?_
  refine TrL.fin ?_
  refine End.nxt ?_
  refine Tr.seq ?_
  refine Tr.rg ?_
  refine TrL.op (ok_move rfl (fun _ => rfl)) rfl rfl ?_
  refine TrL.op (ok_neq rfl (fun _ => rfl) rfl (fun _ => rfl)) rfl rfl ?_
  refine TrL.fin ?_
  refine End.nxt ?_
  refine Tr.cnd rfl ?_ ?_
  · intro h2
    replace h2 := of_decide_eq_true h2
    refine Tr.seq ?_
    refine Tr.rg ?_
    refine TrL.op (ok_move rfl (fun _ => rfl)) rfl rfl ?_
    refine TrL.op (ok_assign rfl (fun _ => rfl)) rfl rfl ?_
    refine TrL.fin ?_
    refine End.nxt ?_
    refine Tr.ret ?_
    refine Rts.thn ?_
    exact Rts.res1 (fn := Try.f45) rfl (.i rfl (cmE_a h2).symm <| .nil)
  · intro h2
    replace h2 := Classical.not_not.1 (of_decide_eq_false h2)
    have va : Valid a := valid_of h2
    refine Tr.skip ?_
    refine End.nxt ?_
    refine Tr.seq ?_
    refine Tr.seq ?_
    refine Tr.rg ?_
    refine TrL.op (ok_ldBS rfl (fun _ => rfl)) rfl rfl ?_
    refine TrL.op (ok_call (fun hp => ct_rCheck _) (.s rfl (fun _ => rfl) rfl <| .nil)) rfl rfl ?_
    refine TrL.op (ok_assign rfl (fun _ => rfl)) rfl rfl ?_
    refine TrL.fin ?_
    refine End.nxt ?_
    refine Tr.seq ?_
    refine Tr.rg ?_
    refine TrL.op (ok_move rfl (fun _ => rfl)) rfl rfl ?_
    refine TrL.op (ok_neq rfl (fun _ => rfl) rfl (fun _ => rfl)) rfl rfl ?_
    refine TrL.fin ?_
    refine End.nxt ?_
    refine Tr.cnd rfl ?_ ?_
    · intro h5
      replace h5 := of_decide_eq_true h5
      refine Tr.seq ?_
      refine Tr.rg ?_
      refine TrL.op (ok_move rfl (fun _ => rfl)) rfl rfl ?_
      refine TrL.op (ok_assign rfl (fun _ => rfl)) rfl rfl ?_
      refine TrL.fin ?_
      refine End.nxt ?_
      refine Tr.ret ?_
      refine Rts.thn ?_
      exact Rts.res1 (fn := Try.f45) rfl (.i rfl (cmE_b h2 h5).symm <| .nil)
    · intro h5
      replace h5 := Classical.not_not.1 (of_decide_eq_false h5)
      have vb : Valid b := valid_of h5
      have hvl := va.le
      have hvl2 := vb.le
      refine Tr.skip ?_
      refine End.nxt ?_
      refine Tr.seq ?_
      refine Tr.seq ?_
      refine Tr.draw 11 mixed (by kernel_rfl) ?_
      refine RunD.op (ok_move rfl (fun _ => rfl)) rfl rfl ?_
      refine RunD.op (ok_lenJ rfl (fun _ => rfl)) rfl rfl ?_
      refine RunD.op (ok_ldBS rfl (fun _ => rfl)) rfl rfl ?_
      refine RunD.op (ok_call (fun hp => ct_rSize _) (.s rfl (fun _ => rfl) rfl <| .nil)) rfl rfl ?_
      refine RunD.op (ok_neq rfl (fun _ => rfl) rfl (fun _ => rfl)) rfl rfl ?_
      refine RunD.op (ok_move rfl (fun _ => rfl)) rfl rfl ?_
      refine RunD.gd rfl rfl rfl (ok_move rfl (fun _ => rfl)) rfl rfl ?_
      refine RunD.gd rfl rfl rfl (ok_move rfl id) rfl rfl ?_
      refine RunD.gd rfl rfl rfl (ok_ldBS rfl (fun _ => rfl)) rfl rfl ?_
      refine RunD.gd rfl rfl rfl (ok_call (fun hp => ct_rSize _) (.s rfl id rfl <| .nil)) rfl rfl ?_
      refine RunD.gd rfl rfl rfl (ok_ldBS rfl (fun _ => rfl)) rfl rfl ?_
      refine RunD.z ?_
      refine TrL.gd rfl rfl rfl (ok_call (fun hp => ct_rSize _) (.s rfl id rfl <| .nil)) rfl rfl ?_
      refine TrL.gd rfl rfl rfl (ok_neq rfl id rfl id) rfl rfl ?_
      refine TrL.gd rfl rfl rfl (ok_and rfl id rfl (fun hp h => gdT2 (id hp) h)) rfl rfl ?_
      refine TrL.op (ok_or rfl (fun _ => rfl) rfl (fun hp h => gdF2 ((fun _ => rfl) hp) h)) rfl rfl ?_
      refine TrL.fin ?_
      refine End.nxt ?_
      refine Tr.cnd rfl ?_ ?_
      · intro h7
        rw [shp1] at h7
        have hs := of_decide_eq_true h7
        refine Tr.seq ?_
        refine Tr.rg ?_
        refine TrL.op (ok_assign rfl (fun _ => rfl)) rfl rfl ?_
        refine TrL.fin ?_
        refine End.nxt ?_
        refine Tr.ret ?_
        refine Rts.thn ?_
        exact Rts.res1 (fn := Try.f45) rfl (.i rfl (cmE_s h2 h5 hs).symm <| .nil)
      · intro h7
        rw [shp1] at h7
        have hs := of_decide_eq_false h7
        have hfl : f.length = a.1.length := Classical.byContradiction fun hh => hs (.inl hh)
        refine Tr.skip ?_
        refine End.nxt ?_
        refine Tr.seq ?_
        refine Tr.seq ?_
        refine Tr.rg ?_
        refine TrL.op (ok_assign rfl (fun _ => rfl)) rfl rfl ?_
        refine TrL.fin ?_
        refine End.nxt ?_
        refine Tr.for1 (σ := Nat) [⟨2, true, _, _⟩, ⟨4, true, _, _⟩, ⟨5, true, _, _⟩] [⟨4, _, _⟩, ⟨5, _, _⟩] (fun k => [⟨11, true, [], kI (k : Int)⟩]) (fun k => []) (fun k => k ≤ f.length ∧ ∀ i, i < k → 0 ≤ nth f i ∧ nth f i < b.1.length) (fun k => inR f b.1.length) (fun k => f.length - k) (0) ⟨Nat.zero_le _, fun i h => absurd h (by omega)⟩ (Ent.mk (.i rfl (by first | rfl | omega | (simp; done) | (simp; omega) | assumption) <| .k rfl rfl <| .k rfl rfl <| .k rfl rfl <| .nil) (.k rfl <| .k rfl <| .nil) rfl) ?_ ?_
        · rintro k ⟨hk0, hR0⟩
          refine Tr.norm (S' := [⟨11, true, _, _⟩, ⟨2, true, _, _⟩, ⟨4, true, _, _⟩, ⟨5, true, _, _⟩]) (M' := [⟨4, _, _⟩, ⟨5, _, _⟩]) rfl rfl ?_
          refine Tr.seq ?_
          refine Tr.seq ?_
          refine Tr.rg ?_
          refine TrL.op (ok_move rfl (fun _ => rfl)) rfl rfl ?_
          refine TrL.op (ok_move rfl (fun _ => rfl)) rfl rfl ?_
          refine TrL.op (ok_lenJ rfl (fun _ => rfl)) rfl rfl ?_
          refine TrL.op (ok_lss rfl (fun _ => rfl) rfl (fun _ => rfl)) rfl rfl ?_
          refine TrL.fin ?_
          refine End.nxt ?_
          refine Tr.cnd rfl ?_ ?_
          · intro h10
            replace h10 := of_decide_eq_true h10
            refine Tr.skip ?_
            refine End.nxt ?_
            refine Tr.seq ?_
            refine Tr.blk ?_
            refine Tr.seq ?_
            refine Tr.draw 12 mixed (by kernel_rfl) ?_
            refine RunD.op (ok_move rfl (fun _ => rfl)) rfl rfl ?_
            refine RunD.op (ok_move rfl (fun _ => rfl)) rfl rfl ?_
            first | refine RunD.op (ok_idxN rfl (fun _ => rfl) rfl (fun _ => rfl) rfl (fun _ => by omega)) rfl rfl ?_ | refine RunD.op (ok_idxP rfl (fun _ => rfl) rfl (fun _ => rfl) rfl (fun _ => by omega)) rfl rfl ?_
            refine RunD.op (ok_ldP rfl (fun _ => rfl) rfl) rfl rfl ?_
            refine RunD.op (ok_lss rfl (fun _ => rfl) rfl (fun _ => rfl)) rfl rfl ?_
            refine RunD.op (ok_move rfl (fun _ => rfl)) rfl rfl ?_
            refine RunD.gd rfl rfl rfl (ok_move rfl (fun _ => rfl)) rfl rfl ?_
            refine RunD.gd rfl rfl rfl (ok_move rfl (fun _ => rfl)) rfl rfl ?_
            first | refine RunD.gd rfl rfl rfl (ok_idxN rfl id rfl id rfl (fun hp => by simp at hp; omega)) rfl rfl ?_ | refine RunD.gd rfl rfl rfl (ok_idxP rfl id rfl id rfl (fun hp => by simp at hp; omega)) rfl rfl ?_
            refine RunD.gd rfl rfl rfl (ok_ldP rfl id rfl) rfl rfl ?_
            refine RunD.gd rfl rfl rfl (ok_ldBS rfl (fun _ => rfl)) rfl rfl ?_
            refine RunD.gd rfl rfl rfl (ok_call (fun hp => ct_rSize _) (.s rfl id rfl <| .nil)) rfl rfl ?_
            refine RunD.z ?_
            refine TrL.gd rfl rfl rfl (ok_geq rfl id rfl id) rfl rfl ?_
            refine TrL.op (ok_or rfl (fun _ => rfl) rfl (fun hp h => gdF2 ((fun _ => rfl) hp) h)) rfl rfl ?_
            refine TrL.fin ?_
            refine End.nxt ?_
            refine Tr.cnd rfl ?_ ?_
            · intro h12
              simp at h12
              refine Tr.seq ?_
              refine Tr.rg ?_
              refine TrL.op (ok_assign rfl (fun _ => rfl)) rfl rfl ?_
              refine TrL.fin ?_
              refine End.nxt ?_
              refine Tr.ret ?_
              refine Rts.out ?_
              refine Rts.thn ?_
              refine Rts.thn ?_
              refine Rts.out ?_
              refine Rts.thn ?_
              refine Rts.thn ?_
              exact Rts.res1 (fn := Try.f45) rfl (.i rfl (cmE_r h2 h5 hs (k := k) (by omega) (by omega)).symm <| .nil)
            · intro h12
              simp at h12
              refine Tr.skip ?_
              refine End.blk ?_
              refine End.nxt ?_
              refine Tr.rg ?_
              refine TrL.op (ok_move rfl (fun _ => rfl)) rfl rfl ?_
              refine TrL.op (ok_add rfl (fun _ => rfl) rfl (fun _ => rfl) (fun _ => by omega)) rfl rfl ?_
              refine TrL.op (ok_assign rfl (fun _ => rfl)) rfl rfl ?_
              refine TrL.fin ?_
              exact End.lp (k + 1) ⟨by omega, all_succ hR0 (by omega)⟩ (by omega) (Ent.mk (.i rfl (by first | rfl | omega | (simp; done) | (simp; omega) | assumption) <| .k rfl rfl <| .k rfl rfl <| .k rfl rfl <| .nil) (.k rfl <| .k rfl <| .nil) rfl)
          · intro h10
            replace h10 := Int.not_lt.1 (of_decide_eq_false h10)
            refine Tr.exit ?_
            refine Exs.thn ?_
            refine Exs.thn ?_
            refine Exs.here ?_
            exact End.cut (k) (fun i hi => hR0 i (by omega)) (Ent.mk (.i rfl (by first | rfl | omega | (simp; done) | (simp; omega) | assumption) <| .k rfl rfl <| .k rfl rfl <| .k rfl rfl <| .nil) (.k rfl <| .k rfl <| .nil) rfl)
        · intro k hE0
          refine End.norm (S' := [⟨11, true, _, _⟩, ⟨2, true, _, _⟩, ⟨4, true, _, _⟩, ⟨5, true, _, _⟩]) (M' := [⟨4, _, _⟩, ⟨5, _, _⟩]) rfl rfl ?_
          refine End.nxt ?_
          refine Tr.seq ?_
          refine Tr.seq ?_
          refine Tr.rg ?_
          refine TrL.op (ok_ldBS rfl (fun _ => rfl)) rfl rfl ?_
          refine TrL.op (ok_ldBS rfl (fun _ => rfl)) rfl rfl ?_
          refine TrL.op (ok_move rfl (fun _ => rfl)) rfl rfl ?_
          refine TrL.op (ok_call (fun hp => ct_rIsMap _ _ _ va vb hfl hE0) (.s rfl (fun _ => rfl) rfl <| .s rfl (fun _ => rfl) rfl <| .a rfl (fun _ => rfl) <| .nil)) rfl rfl ?_
          refine TrL.op (ok_not rfl (fun _ => rfl)) rfl rfl ?_
          refine TrL.op (ok_move rfl (fun _ => rfl)) rfl rfl ?_
          refine TrL.gd rfl rfl rfl (ok_ldBS rfl (fun _ => rfl)) rfl rfl ?_
          refine TrL.gd rfl rfl rfl (ok_move rfl (fun _ => rfl)) rfl rfl ?_
          refine TrL.gd rfl rfl rfl (ok_call (fun hp => ct_rOnto _ _ vb) (.s rfl id rfl <| .a rfl id <| .nil)) rfl rfl ?_
          refine TrL.gd rfl rfl rfl (ok_not rfl id) rfl rfl ?_
          refine TrL.op (ok_or rfl (fun _ => rfl) rfl (fun hp h => gdF2 ((fun _ => rfl) hp) h)) rfl rfl ?_
          refine TrL.fin ?_
          refine End.nxt ?_
          refine Tr.cnd rfl ?_ ?_
          · intro h14
            simp at h14
            refine Tr.seq ?_
            refine Tr.rg ?_
            refine TrL.op (ok_assign rfl (fun _ => rfl)) rfl rfl ?_
            refine TrL.fin ?_
            refine End.nxt ?_
            refine Tr.ret ?_
            refine Rts.thn ?_
            exact Rts.res1 (fn := Try.f45) rfl (.i rfl (cmE_p h2 h5 hs hE0 (by cases hA : isMapB a b f; exact .inl rfl; exact .inr (by simpa [hA] using h14))).symm <| .nil)
          · intro h14
            simp at h14
            refine Tr.skip ?_
            refine End.nxt ?_
            refine Tr.seq ?_
            refine Tr.rg ?_
            refine TrL.op (ok_assign rfl (fun _ => rfl)) rfl rfl ?_
            refine TrL.fin ?_
            refine End.nxt ?_
            refine Tr.ret ?_
            exact Rts.res1 (fn := Try.f45) rfl (.i rfl (cmE_0 h2 h5 hs hE0 h14.1 h14.2).symm <| .nil)

set_option maxRecDepth 100000 in
set_option maxHeartbeats 1000000 in
theorem ct_oCheckMap (a b : Ori) (f : List Int) (same : Bool) : Ct Try.prog 92 [kRd eO a, kRd eO b, kRd (eL eI) f, kB same] (kI (cmE a b f same)) := by
  refine Ct.mk Try.func92 rfl Try.ntmps92 rfl (fun w J => ?_)
  refine Tr.fact (s := 2) rfl (fun _ _ h => lenB h) (fun hb => ?_)
  refine Tr.seq ?_
  refine Tr.rg ?_
  refine TrL.new (ok_box 4 rfl (fun _ => rfl) rfl) rfl rfl rfl rfl ?_
  refine TrL.new (ok_box 5 rfl (fun _ => rfl) rfl) rfl rfl rfl rfl ?_
  refine TrL.op (ok_assign rfl (fun _ => rfl)) rfl rfl ?_
  refine TrL.fin ?_
  refine End.nxt ?_
  refine Tr.seq ?_
  refine Tr.seq ?_
  refine Tr.rg ?_
  refine TrL.op (ok_ldBS rfl (fun _ => rfl)) rfl rfl ?_
  refine TrL.op (ok_ldBS rfl (fun _ => rfl)) rfl rfl ?_
  refine TrL.op (ok_buildL [(0, 2), (2, 2)] rfl (fun hp => .cons rfl rfl rfl <| .cons rfl rfl rfl <| .nil)) rfl rfl ?_
  refine TrL.op (ok_move rfl (fun _ => rfl)) rfl rfl ?_
  refine TrL.fin ?_
  refine End.nxt ?_
  refine Tr.for1 (σ := Nat) [⟨2, true, _, _⟩, ⟨3, true, _, _⟩, ⟨4, true, _, _⟩, ⟨5, true, _, _⟩, ⟨19, true, _, _⟩] [⟨4, _, _⟩, ⟨5, _, _⟩] (fun k => [⟨20, true, [], kI (k : Int)⟩]) (fun k => []) (fun k => k ≤ 2 ∧ (0 < k → chkO a = 0) ∧ (1 < k → chkO b = 0)) (fun k => chkO a = 0 ∧ chkO b = 0) (fun k => 2 - k) (0) ⟨by omega, fun h => absurd h (by omega), fun h => absurd h (by omega)⟩ (Ent.mk (.i rfl (by first | rfl | omega | (simp; done) | (simp; omega) | assumption) <| .k rfl rfl <| .k rfl rfl <| .k rfl rfl <| .k rfl rfl <| .k rfl rfl <| .nil) (.k rfl <| .k rfl <| .nil) rfl) ?_ ?_
  · rintro k ⟨hk, hp, hq⟩
    refine Tr.norm (S' := [⟨20, true, _, _⟩, ⟨2, true, _, _⟩, ⟨3, true, _, _⟩, ⟨4, true, _, _⟩, ⟨5, true, _, _⟩, ⟨19, true, _, _⟩]) (M' := [⟨4, _, _⟩, ⟨5, _, _⟩]) rfl rfl ?_
    refine Tr.seq ?_
    refine Tr.rg ?_
    refine TrL.op (ok_lss rfl (fun _ => rfl) rfl (fun _ => rfl)) rfl rfl ?_
    refine TrL.fin ?_
    refine End.nxt ?_
    refine Tr.seq ?_
    refine Tr.cnd rfl ?_ ?_
    · intro h2
      replace h2 := of_decide_eq_true h2
      refine Tr.skip ?_
      refine End.nxt ?_
      refine Tr.seq ?_
      refine Tr.blk ?_
      refine Tr.seq ?_
      refine Tr.rg ?_
      refine TrL.op (ok_idxAA eO rfl (fun _ => rfl) rfl (fun _ => rfl) rfl rfl rfl (fun _ => ⟨by omega, by simp; omega⟩)) rfl rfl ?_
      refine TrL.new (ok_alloc 10) rfl rfl rfl rfl ?_
      refine TrL.stB rfl rfl rfl rfl ?_
      refine TrL.fin ?_
      refine End.nxt ?_
      refine Tr.seq ?_
      refine Tr.rg ?_
      refine TrL.op (ok_ldBS rfl (fun _ => rfl)) rfl rfl ?_
      refine TrL.op (ok_call (fun hp => ct_oCheck _) (.s rfl (fun _ => rfl) rfl <| .nil)) rfl rfl ?_
      refine TrL.op (ok_assign rfl (fun _ => rfl)) rfl rfl ?_
      refine TrL.fin ?_
      refine End.nxt ?_
      refine Tr.seq ?_
      refine Tr.rg ?_
      refine TrL.op (ok_move rfl (fun _ => rfl)) rfl rfl ?_
      refine TrL.op (ok_neq rfl (fun _ => rfl) rfl (fun _ => rfl)) rfl rfl ?_
      refine TrL.fin ?_
      refine End.nxt ?_
      refine Tr.cnd rfl ?_ ?_
      · intro h5
        replace h5 := of_decide_eq_true h5
        refine Tr.seq ?_
        refine Tr.rg ?_
        refine TrL.op (ok_move rfl (fun _ => rfl)) rfl rfl ?_
        refine TrL.op (ok_assign rfl (fun _ => rfl)) rfl rfl ?_
        refine TrL.fin ?_
        refine End.nxt ?_
        refine Tr.ret ?_
        refine Rts.out ?_
        refine Rts.thn ?_
        refine Rts.thn ?_
        refine Rts.out ?_
        refine Rts.thn ?_
        refine Rts.thn ?_
        exact Rts.res1 (fn := Try.f92) rfl (.i rfl (cm2 (by omega) hp h5) <| .nil)
      · intro h5
        replace h5 := Classical.not_not.1 (of_decide_eq_false h5)
        refine Tr.skip ?_
        refine End.blk ?_
        refine End.nxt ?_
        refine Tr.rg ?_
        refine TrL.op (ok_add rfl (fun _ => rfl) rfl (fun _ => rfl) (fun _ => by omega)) rfl rfl ?_
        refine TrL.op (ok_move rfl (fun _ => rfl)) rfl rfl ?_
        refine TrL.fin ?_
        exact End.lp (k + 1) ⟨by omega, fun _ => by (rcases k with _ | k; exact h5; exact hp (by omega)), fun _ => by (rcases k with _ | _ | k; omega; exact h5; exact hq (by omega))⟩ (by omega) (Ent.mk (.i rfl (by first | rfl | omega | (simp; done) | (simp; omega) | assumption) <| .k rfl rfl <| .k rfl rfl <| .k rfl rfl <| .k rfl rfl <| .k rfl rfl <| .nil) (.k rfl <| .k rfl <| .nil) rfl)
    · intro h2
      replace h2 := Int.not_lt.1 (of_decide_eq_false h2)
      refine Tr.exit ?_
      refine Exs.thn ?_
      refine Exs.thn ?_
      refine Exs.here ?_
      exact End.cut (k) ⟨hp (by omega), hq (by omega)⟩ (Ent.mk (.i rfl (by first | rfl | omega | (simp; done) | (simp; omega) | assumption) <| .k rfl rfl <| .k rfl rfl <| .k rfl rfl <| .k rfl rfl <| .k rfl rfl <| .nil) (.k rfl <| .k rfl <| .nil) rfl)
  · rintro k ⟨ha, hbb⟩
    refine End.norm (S' := [⟨20, true, _, _⟩, ⟨2, true, _, _⟩, ⟨3, true, _, _⟩, ⟨4, true, _, _⟩, ⟨5, true, _, _⟩, ⟨19, true, _, _⟩]) (M' := [⟨4, _, _⟩, ⟨5, _, _⟩]) rfl rfl ?_
    have va : Valid a := valid_of ha
    have vb : Valid b := valid_of hbb
    have hvl := va.le
    have hvl2 := vb.le
    have hva := va.len
    have hvb := vb.len
    refine End.nxt ?_
    refine Tr.seq ?_
    refine Tr.seq ?_
    refine Tr.rg ?_
    refine TrL.op (ok_move rfl (fun _ => rfl)) rfl rfl ?_
    refine TrL.op (ok_lenJ rfl (fun _ => rfl)) rfl rfl ?_
    refine TrL.op (ok_fldO rfl (fun _ => rfl)) rfl rfl ?_
    refine TrL.op (ok_ldB rfl (fun _ => rfl) rfl) rfl rfl ?_
    refine TrL.op (ok_lenJ rfl (fun _ => rfl)) rfl rfl ?_
    refine TrL.op (ok_neq rfl (fun _ => rfl) rfl (fun _ => rfl)) rfl rfl ?_
    refine TrL.op (ok_move rfl (fun _ => rfl)) rfl rfl ?_
    refine TrL.gd rfl rfl rfl (ok_move rfl (fun _ => rfl)) rfl rfl ?_
    refine TrL.gd rfl rfl rfl (ok_move rfl id) rfl rfl ?_
    refine TrL.gd rfl rfl rfl (ok_move rfl (fun _ => rfl)) rfl rfl ?_
    refine TrL.gd rfl rfl rfl (ok_lenJ rfl id) rfl rfl ?_
    refine TrL.gd rfl rfl rfl (ok_fldO rfl (fun _ => rfl)) rfl rfl ?_
    refine TrL.gd rfl rfl rfl (ok_ldB rfl id rfl) rfl rfl ?_
    refine TrL.gd rfl rfl rfl (ok_lenJ rfl id) rfl rfl ?_
    refine TrL.gd rfl rfl rfl (ok_neq rfl id rfl id) rfl rfl ?_
    refine TrL.gd rfl rfl rfl (ok_and rfl id rfl (fun hp h => gdT2 (id hp) h)) rfl rfl ?_
    refine TrL.op (ok_or rfl (fun _ => rfl) rfl (fun hp h => gdF2 ((fun _ => rfl) hp) h)) rfl rfl ?_
    refine TrL.fin ?_
    refine End.nxt ?_
    refine Tr.cnd rfl ?_ ?_
    · intro h8
      rw [shp2] at h8
      have hs := of_decide_eq_true h8
      refine Tr.seq ?_
      refine Tr.rg ?_
      refine TrL.op (ok_assign rfl (fun _ => rfl)) rfl rfl ?_
      refine TrL.fin ?_
      refine End.nxt ?_
      refine Tr.ret ?_
      refine Rts.thn ?_
      exact Rts.res1 (fn := Try.f92) rfl (.i rfl (cmE_s ha hbb hs).symm <| .nil)
    · intro h8
      rw [shp2] at h8
      have hs := of_decide_eq_false h8
      have hfl : f.length = a.1.length := Classical.byContradiction fun hh => hs (.inl hh)
      refine Tr.skip ?_
      refine End.nxt ?_
      refine Tr.seq ?_
      refine Tr.rg ?_
      refine TrL.op (ok_fldO rfl (fun _ => rfl)) rfl rfl ?_
      refine TrL.op (ok_ldB rfl (fun _ => rfl) rfl) rfl rfl ?_
      refine TrL.op (ok_lenJ rfl (fun _ => rfl)) rfl rfl ?_
      refine TrL.new (ok_makeN eBool 49 rfl (fun _ => rfl) rfl (fun _ => rfl) rfl rfl rfl (fun _ => by omega)) rfl rfl rfl rfl ?_
      refine TrL.op (ok_assign rfl (fun _ => rfl)) rfl rfl ?_
      refine TrL.fin ?_
      refine End.nxt ?_
      refine Tr.seq ?_
      refine Tr.seq ?_
      refine Tr.rg ?_
      refine TrL.op (ok_move rfl (fun _ => rfl)) rfl rfl ?_
      refine TrL.op (ok_lenJ rfl (fun _ => rfl)) rfl rfl ?_
      refine TrL.op (ok_move rfl (fun _ => rfl)) rfl rfl ?_
      refine TrL.fin ?_
      refine End.nxt ?_
      refine Tr.for1 (σ := Nat) [⟨2, true, _, _⟩, ⟨4, true, _, _⟩, ⟨5, true, _, _⟩, ⟨12, true, _, _⟩, ⟨50, true, _, _⟩, ⟨51, true, _, _⟩] [⟨4, _, _⟩, ⟨5, _, _⟩] (fun k => [⟨52, true, [], kI (k : Int)⟩]) (fun k => [⟨49, [], cArr false 4 eBool (seenB b.1.length (f.take k)) b.1.length⟩]) (fun k => k ≤ f.length ∧ ∀ i, i < k → 0 ≤ nth f i ∧ nth f i < b.1.length) (fun k => inR f b.1.length ∧ k = f.length) (fun k => f.length - k) (0) ⟨Nat.zero_le _, fun i h => absurd h (by omega)⟩ (Ent.mk (.i rfl (by first | rfl | omega | (simp; done) | (simp; omega) | assumption) <| .k rfl rfl <| .k rfl rfl <| .k rfl rfl <| .k rfl rfl <| .k rfl rfl <| .k rfl rfl <| .nil) (.a seenB_nil (by first | rfl | omega | (simp; done) | (simp; omega) | assumption) <| .k rfl <| .k rfl <| .nil) rfl) ?_ ?_
      · rintro k ⟨hk, hR⟩
        refine Tr.norm (S' := [⟨52, true, _, _⟩, ⟨2, true, _, _⟩, ⟨4, true, _, _⟩, ⟨5, true, _, _⟩, ⟨12, true, _, _⟩, ⟨50, true, _, _⟩, ⟨51, true, _, _⟩]) (M' := [⟨49, _, _⟩, ⟨4, _, _⟩, ⟨5, _, _⟩]) rfl rfl ?_
        refine Tr.seq ?_
        refine Tr.rg ?_
        refine TrL.op (ok_lss rfl (fun _ => rfl) rfl (fun _ => rfl)) rfl rfl ?_
        refine TrL.fin ?_
        refine End.nxt ?_
        refine Tr.seq ?_
        refine Tr.cnd rfl ?_ ?_
        · intro h12
          replace h12 := of_decide_eq_true h12
          refine Tr.skip ?_
          refine End.nxt ?_
          refine Tr.seq ?_
          refine Tr.blk ?_
          refine Tr.seq ?_
          refine Tr.rg ?_
          first | refine TrL.op (ok_idxN rfl (fun _ => rfl) rfl (fun _ => rfl) rfl (fun _ => by omega)) rfl rfl ?_ | refine TrL.op (ok_idxP rfl (fun _ => rfl) rfl (fun _ => rfl) rfl (fun _ => by omega)) rfl rfl ?_
          refine TrL.op (ok_ldP rfl (fun _ => rfl) rfl) rfl rfl ?_
          refine TrL.op (ok_assign rfl (fun _ => rfl)) rfl rfl ?_
          refine TrL.fin ?_
          refine End.nxt ?_
          refine Tr.seq ?_
          refine Tr.seq ?_
          refine Tr.rg ?_
          refine TrL.op (ok_move rfl (fun _ => rfl)) rfl rfl ?_
          refine TrL.op (ok_lss rfl (fun _ => rfl) rfl (fun _ => rfl)) rfl rfl ?_
          refine TrL.op (ok_move rfl (fun _ => rfl)) rfl rfl ?_
          refine TrL.gd rfl rfl rfl (ok_move rfl (fun _ => rfl)) rfl rfl ?_
          refine TrL.gd rfl rfl rfl (ok_move rfl (fun _ => rfl)) rfl rfl ?_
          refine TrL.gd rfl rfl rfl (ok_lenO rfl id) rfl rfl ?_
          refine TrL.gd rfl rfl rfl (ok_geq rfl id rfl id) rfl rfl ?_
          refine TrL.op (ok_or rfl (fun _ => rfl) rfl (fun hp h => gdF2 ((fun _ => rfl) hp) h)) rfl rfl ?_
          refine TrL.fin ?_
          refine End.nxt ?_
          refine Tr.cnd rfl ?_ ?_
          · intro h14
            simp at h14
            refine Tr.seq ?_
            refine Tr.rg ?_
            refine TrL.op (ok_assign rfl (fun _ => rfl)) rfl rfl ?_
            refine TrL.fin ?_
            refine End.nxt ?_
            refine Tr.ret ?_
            refine Rts.thn ?_
            refine Rts.out ?_
            refine Rts.thn ?_
            refine Rts.thn ?_
            refine Rts.out ?_
            refine Rts.thn ?_
            refine Rts.thn ?_
            exact Rts.res1 (fn := Try.f92) rfl (.i rfl (cmE_r ha hbb hs (k := k) (by omega) (by omega)).symm <| .nil)
          · intro h14
            simp at h14
            refine Tr.skip ?_
            refine End.nxt ?_
            refine Tr.rg ?_
            refine TrL.op (ok_move rfl (fun _ => rfl)) rfl rfl ?_
            refine TrL.op (ok_move rfl (fun _ => rfl)) rfl rfl ?_
            first | refine TrL.op (ok_idxEN rfl (fun _ => rfl) rfl (fun _ => rfl) (fun _ => by omega)) rfl rfl ?_ | refine TrL.op (ok_idxE rfl (fun _ => rfl) rfl (fun _ => rfl) (fun _ => by omega)) rfl rfl ?_
            refine TrL.stE rfl rfl rfl rfl rfl ?_
            refine TrL.fin ?_
            refine End.blk ?_
            refine End.nxt ?_
            refine Tr.rg ?_
            refine TrL.op (ok_add rfl (fun _ => rfl) rfl (fun _ => rfl) (fun _ => by omega)) rfl rfl ?_
            refine TrL.op (ok_move rfl (fun _ => rfl)) rfl rfl ?_
            refine TrL.fin ?_
            exact End.lp (k + 1) ⟨by omega, all_succ hR (by omega)⟩ (by omega) (Ent.mk (.i rfl (by first | rfl | omega | (simp; done) | (simp; omega) | assumption) <| .k rfl rfl <| .k rfl rfl <| .k rfl rfl <| .k rfl rfl <| .k rfl rfl <| .k rfl rfl <| .nil) (.a (by rw [take_succ_nth (by omega), seenB_set (by omega)]) (by first | rfl | omega | (simp; done) | (simp; omega) | assumption) <| .k rfl <| .k rfl <| .nil) rfl)
        · intro h12
          replace h12 := Int.not_lt.1 (of_decide_eq_false h12)
          refine Tr.exit ?_
          refine Exs.thn ?_
          refine Exs.thn ?_
          refine Exs.here ?_
          exact End.cut (k) ⟨fun i hi => hR i (by omega), by omega⟩ (Ent.mk (.i rfl (by first | rfl | omega | (simp; done) | (simp; omega) | assumption) <| .k rfl rfl <| .k rfl rfl <| .k rfl rfl <| .k rfl rfl <| .k rfl rfl <| .k rfl rfl <| .nil) (.a (by first | rfl | omega | (simp; done) | (simp; omega) | assumption) (by first | rfl | omega | (simp; done) | (simp; omega) | assumption) <| .k rfl <| .k rfl <| .nil) rfl)
      · rintro k ⟨hr, hkf⟩
        refine End.norm (S' := [⟨52, true, _, _⟩, ⟨2, true, _, _⟩, ⟨4, true, _, _⟩, ⟨5, true, _, _⟩, ⟨12, true, _, _⟩, ⟨50, true, _, _⟩, ⟨51, true, _, _⟩]) (M' := [⟨49, _, _⟩, ⟨4, _, _⟩, ⟨5, _, _⟩]) rfl rfl ?_
        subst hkf
        rw [List.take_length]
        refine End.nxt ?_
        refine Tr.seq ?_
        refine Tr.seq ?_
        refine Tr.rg ?_
        refine TrL.op (ok_move rfl (fun _ => rfl)) rfl rfl ?_
        refine TrL.op (ok_lenJ rfl (fun _ => rfl)) rfl rfl ?_
        refine TrL.op (ok_move rfl (fun _ => rfl)) rfl rfl ?_
        refine TrL.fin ?_
        refine End.nxt ?_
        refine Tr.for1 (σ := Nat) [⟨2, true, _, _⟩, ⟨4, true, _, _⟩, ⟨5, true, _, _⟩, ⟨12, true, _, _⟩, ⟨68, true, _, _⟩, ⟨69, true, _, _⟩] [⟨4, _, _⟩, ⟨5, _, _⟩, ⟨49, _, _⟩] (fun k => [⟨70, true, [], kI (k : Int)⟩]) (fun k => []) (fun k => k ≤ f.length ∧ ∀ i, i < k → (ap f (nth a.1 i) = ap b.1 (nth f i) ∧ ap f (nth a.2 i) = ap b.2 (nth f i))) (fun k => ∀ i, i < f.length → (ap f (nth a.1 i) = ap b.1 (nth f i) ∧ ap f (nth a.2 i) = ap b.2 (nth f i))) (fun k => f.length - k) (0) ⟨Nat.zero_le _, fun i h => absurd h (by omega)⟩ (Ent.mk (.i rfl (by first | rfl | omega | (simp; done) | (simp; omega) | assumption) <| .k rfl rfl <| .k rfl rfl <| .k rfl rfl <| .k rfl rfl <| .k rfl rfl <| .k rfl rfl <| .nil) (.k rfl <| .k rfl <| .k rfl <| .nil) rfl) ?_ ?_
        · rintro k ⟨hk2, hR2⟩
          refine Tr.norm (S' := [⟨70, true, _, _⟩, ⟨2, true, _, _⟩, ⟨4, true, _, _⟩, ⟨5, true, _, _⟩, ⟨12, true, _, _⟩, ⟨68, true, _, _⟩, ⟨69, true, _, _⟩]) (M' := [⟨4, _, _⟩, ⟨5, _, _⟩, ⟨49, _, _⟩]) rfl rfl ?_
          refine Tr.seq ?_
          refine Tr.rg ?_
          refine TrL.op (ok_lss rfl (fun _ => rfl) rfl (fun _ => rfl)) rfl rfl ?_
          refine TrL.fin ?_
          refine End.nxt ?_
          refine Tr.seq ?_
          refine Tr.cnd rfl ?_ ?_
          · intro h19
            replace h19 := of_decide_eq_true h19
            refine Tr.skip ?_
            refine End.nxt ?_
            refine Tr.seq ?_
            refine Tr.blk ?_
            refine Tr.seq ?_
            refine Tr.rg ?_
            refine TrL.op (ok_move rfl (fun _ => rfl)) rfl rfl ?_
            first | refine TrL.op (ok_idxN rfl (fun _ => rfl) rfl (fun _ => rfl) rfl (fun _ => by omega)) rfl rfl ?_ | refine TrL.op (ok_idxP rfl (fun _ => rfl) rfl (fun _ => rfl) rfl (fun _ => by omega)) rfl rfl ?_
            refine TrL.op (ok_ldP rfl (fun _ => rfl) rfl) rfl rfl ?_
            refine TrL.op (ok_assign rfl (fun _ => rfl)) rfl rfl ?_
            refine TrL.op (ok_assign rfl (fun _ => rfl)) rfl rfl ?_
            refine TrL.fin ?_
            refine End.nxt ?_
            refine Tr.seq ?_
            refine Tr.draw 28 mixed (by kernel_rfl) ?_
            have a1 := va.ri (i := k) (by omega)
            have a2 := va.ui (i := k) (by omega)
            have a3 := hr k (by omega)
            have a4 := hr (nth a.1 k).toNat (by omega)
            have a5 := hr (nth a.2 k).toNat (by omega)
            refine RunD.op (ok_move rfl (fun _ => rfl)) rfl rfl ?_
            refine RunD.op (ok_fldO rfl (fun _ => rfl)) rfl rfl ?_
            refine RunD.op (ok_ldB rfl (fun _ => rfl) rfl) rfl rfl ?_
            refine RunD.op (ok_move rfl (fun _ => rfl)) rfl rfl ?_
            first | refine RunD.op (ok_idxN rfl (fun _ => rfl) rfl (fun _ => rfl) rfl (fun _ => by omega)) rfl rfl ?_ | refine RunD.op (ok_idxP rfl (fun _ => rfl) rfl (fun _ => rfl) rfl (fun _ => by omega)) rfl rfl ?_
            refine RunD.op (ok_ldP rfl (fun _ => rfl) rfl) rfl rfl ?_
            first | refine RunD.op (ok_idxN rfl (fun _ => rfl) rfl (fun _ => rfl) rfl (fun _ => by omega)) rfl rfl ?_ | refine RunD.op (ok_idxP rfl (fun _ => rfl) rfl (fun _ => rfl) rfl (fun _ => by omega)) rfl rfl ?_
            refine RunD.op (ok_ldP rfl (fun _ => rfl) rfl) rfl rfl ?_
            refine RunD.op (ok_fldO rfl (fun _ => rfl)) rfl rfl ?_
            refine RunD.op (ok_ldB rfl (fun _ => rfl) rfl) rfl rfl ?_
            refine RunD.op (ok_move rfl (fun _ => rfl)) rfl rfl ?_
            first | refine RunD.op (ok_idxN rfl (fun _ => rfl) rfl (fun _ => rfl) rfl (fun _ => by omega)) rfl rfl ?_ | refine RunD.op (ok_idxP rfl (fun _ => rfl) rfl (fun _ => rfl) rfl (fun _ => by omega)) rfl rfl ?_
            refine RunD.op (ok_ldP rfl (fun _ => rfl) rfl) rfl rfl ?_
            refine RunD.op (ok_neq rfl (fun _ => rfl) rfl (fun _ => rfl)) rfl rfl ?_
            refine RunD.op (ok_move rfl (fun _ => rfl)) rfl rfl ?_
            refine RunD.gd rfl rfl rfl (ok_move rfl (fun _ => rfl)) rfl rfl ?_
            refine RunD.gd rfl rfl rfl (ok_fldO rfl (fun _ => rfl)) rfl rfl ?_
            refine RunD.gd rfl rfl rfl (ok_ldB rfl id rfl) rfl rfl ?_
            refine RunD.gd rfl rfl rfl (ok_move rfl (fun _ => rfl)) rfl rfl ?_
            first | refine RunD.gd rfl rfl rfl (ok_idxN rfl id rfl id rfl (fun hp => by simp at hp; omega)) rfl rfl ?_ | refine RunD.gd rfl rfl rfl (ok_idxP rfl id rfl id rfl (fun hp => by simp at hp; omega)) rfl rfl ?_
            refine RunD.gd rfl rfl rfl (ok_ldP rfl id rfl) rfl rfl ?_
            first | refine RunD.gd rfl rfl rfl (ok_idxN rfl id rfl id rfl (fun hp => by simp at hp; omega)) rfl rfl ?_ | refine RunD.gd rfl rfl rfl (ok_idxP rfl id rfl id rfl (fun hp => by simp at hp; omega)) rfl rfl ?_
            refine RunD.gd rfl rfl rfl (ok_ldP rfl id rfl) rfl rfl ?_
            refine RunD.gd rfl rfl rfl (ok_fldO rfl (fun _ => rfl)) rfl rfl ?_
            refine RunD.gd rfl rfl rfl (ok_ldB rfl id rfl) rfl rfl ?_
            refine RunD.gd rfl rfl rfl (ok_move rfl (fun _ => rfl)) rfl rfl ?_
            first | refine RunD.gd rfl rfl rfl (ok_idxN rfl id rfl id rfl (fun hp => by simp at hp; omega)) rfl rfl ?_ | refine RunD.gd rfl rfl rfl (ok_idxP rfl id rfl id rfl (fun hp => by simp at hp; omega)) rfl rfl ?_
            refine RunD.gd rfl rfl rfl (ok_ldP rfl id rfl) rfl rfl ?_
            refine RunD.z ?_
            refine TrL.gd rfl rfl rfl (ok_neq rfl id rfl id) rfl rfl ?_
            refine TrL.op (ok_or rfl (fun _ => rfl) rfl (fun hp h => gdF2 ((fun _ => rfl) hp) h)) rfl rfl ?_
            refine TrL.fin ?_
            refine End.nxt ?_
            refine Tr.cnd rfl ?_ ?_
            · intro h21
              simp at h21
              refine Tr.seq ?_
              refine Tr.rg ?_
              refine TrL.op (ok_assign rfl (fun _ => rfl)) rfl rfl ?_
              refine TrL.fin ?_
              refine End.nxt ?_
              refine Tr.ret ?_
              refine Rts.out ?_
              refine Rts.thn ?_
              refine Rts.thn ?_
              refine Rts.out ?_
              refine Rts.thn ?_
              refine Rts.thn ?_
              exact Rts.res1 (fn := Try.f92) rfl (.i rfl (cmE_p ha hbb hs hr (.inl (isMapB_not (k := k) (by omega) (by unfold ap; intro hh; rcases h21 with h | h; exact h hh.1; exact h hh.2)))).symm <| .nil)
            · intro h21
              simp at h21
              refine Tr.skip ?_
              refine End.blk ?_
              refine End.nxt ?_
              refine Tr.rg ?_
              refine TrL.op (ok_add rfl (fun _ => rfl) rfl (fun _ => rfl) (fun _ => by omega)) rfl rfl ?_
              refine TrL.op (ok_move rfl (fun _ => rfl)) rfl rfl ?_
              refine TrL.fin ?_
              exact End.lp (k + 1) ⟨by omega, all_succ hR2 (by unfold ap; exact h21)⟩ (by omega) (Ent.mk (.i rfl (by first | rfl | omega | (simp; done) | (simp; omega) | assumption) <| .k rfl rfl <| .k rfl rfl <| .k rfl rfl <| .k rfl rfl <| .k rfl rfl <| .k rfl rfl <| .nil) (.k rfl <| .k rfl <| .k rfl <| .nil) rfl)
          · intro h19
            replace h19 := Int.not_lt.1 (of_decide_eq_false h19)
            refine Tr.exit ?_
            refine Exs.thn ?_
            refine Exs.thn ?_
            refine Exs.here ?_
            exact End.cut (k) (fun i hi => hR2 i (by omega)) (Ent.mk (.i rfl (by first | rfl | omega | (simp; done) | (simp; omega) | assumption) <| .k rfl rfl <| .k rfl rfl <| .k rfl rfl <| .k rfl rfl <| .k rfl rfl <| .k rfl rfl <| .nil) (.k rfl <| .k rfl <| .k rfl <| .nil) rfl)
        · intro k hE2
          refine End.norm (S' := [⟨70, true, _, _⟩, ⟨2, true, _, _⟩, ⟨4, true, _, _⟩, ⟨5, true, _, _⟩, ⟨12, true, _, _⟩, ⟨68, true, _, _⟩, ⟨69, true, _, _⟩]) (M' := [⟨4, _, _⟩, ⟨5, _, _⟩, ⟨49, _, _⟩]) rfl rfl ?_
          refine End.nxt ?_
          refine Tr.seq ?_
          refine Tr.seq ?_
          refine Tr.rg ?_
          refine TrL.op (ok_move rfl (fun _ => rfl)) rfl rfl ?_
          refine TrL.frz 49 [12, 106] ⟨rfl, rfl, trivial⟩ (by simp only [lenMax]; omega) rfl ?_
          refine TrL.norm (S' := [⟨_, _, _, _⟩, ⟨_, _, _, _⟩, ⟨_, _, _, _⟩, ⟨_, _, _, _⟩, ⟨_, _, _, _⟩, ⟨_, _, _, _⟩, ⟨_, _, _, _⟩, ⟨_, _, _, _⟩, ⟨_, _, _, _⟩, ⟨_, _, _, _⟩]) rfl rfl ?_
          refine TrL.op (ok_call (fun hp => ct_ContainsB _ _) (.a rfl (fun _ => rfl) <| .a rfl (fun _ => rfl) <| .nil)) rfl rfl ?_
          refine TrL.fin ?_
          refine End.nxt ?_
          refine Tr.cnd rfl ?_ ?_
          · intro h24
            rw [seenB_onto] at h24
            refine Tr.seq ?_
            refine Tr.rg ?_
            refine TrL.op (ok_assign rfl (fun _ => rfl)) rfl rfl ?_
            refine TrL.fin ?_
            refine End.nxt ?_
            refine Tr.ret ?_
            refine Rts.thn ?_
            exact Rts.res1 (fn := Try.f92) rfl (.i rfl (cmE_p ha hbb hs hr (.inr (by simpa using h24))).symm <| .nil)
          · intro h24
            rw [seenB_onto] at h24
            refine Tr.skip ?_
            refine End.nxt ?_
            refine Tr.seq ?_
            refine Tr.rg ?_
            refine TrL.op (ok_assign rfl (fun _ => rfl)) rfl rfl ?_
            refine TrL.fin ?_
            refine End.nxt ?_
            refine Tr.ret ?_
            exact Rts.res1 (fn := Try.f92) rfl (.i rfl (cmE_0 ha hbb hs hr (isMapB_all (fun x hx => hE2 x (by omega))) (by simpa using h24)).symm <| .nil)

set_option maxRecDepth 100000 in
theorem ct_oCheckIsomorphism (a b : Ori) (f : List Int) : Ct Try.prog 44 [kRd eO a, kRd eO b, kRd (eL eI) f] (kI (cmE a b f true)) := by
  refine Ct.mk Try.func44 rfl Try.ntmps44 rfl (fun w J => ?_)
  refine Tr.seq ?_
  refine Tr.rg ?_
  refine TrL.new (ok_box 3 rfl (fun _ => rfl) rfl) rfl rfl rfl rfl ?_
  refine TrL.new (ok_box 4 rfl (fun _ => rfl) rfl) rfl rfl rfl rfl ?_
  refine TrL.op (ok_assign rfl (fun _ => rfl)) rfl rfl ?_
  refine TrL.fin ?_
  refine End.nxt ?_
  refine Tr.seq ?_
  refine Tr.rg ?_
  refine TrL.op (ok_ldBS rfl (fun _ => rfl)) rfl rfl ?_
  refine TrL.op (ok_ldBS rfl (fun _ => rfl)) rfl rfl ?_
  refine TrL.op (ok_move rfl (fun _ => rfl)) rfl rfl ?_
  refine TrL.op (ok_call (fun hp => ct_oCheckMap _ _ _ _) (.s rfl (fun _ => rfl) rfl <| .s rfl (fun _ => rfl) rfl <| .a rfl (fun _ => rfl) <| .a rfl (fun _ => rfl) <| .nil)) rfl rfl ?_
  refine TrL.op (ok_assign rfl (fun _ => rfl)) rfl rfl ?_
  refine TrL.fin ?_
  refine End.nxt ?_
  refine Tr.ret ?_
  exact Rts.res1 (fn := Try.f44) rfl (.i rfl (by first | rfl | omega | (simp; done) | (simp; omega) | assumption) <| .nil)

set_option maxRecDepth 100000 in
theorem ct_oCheckCovering (a b : Ori) (f : List Int) : Ct Try.prog 46 [kRd eO a, kRd eO b, kRd (eL eI) f] (kI (cmE a b f false)) := by
  refine Ct.mk Try.func46 rfl Try.ntmps46 rfl (fun w J => ?_)
  refine Tr.seq ?_
  refine Tr.rg ?_
  refine TrL.new (ok_box 3 rfl (fun _ => rfl) rfl) rfl rfl rfl rfl ?_
  refine TrL.new (ok_box 4 rfl (fun _ => rfl) rfl) rfl rfl rfl rfl ?_
  refine TrL.op (ok_assign rfl (fun _ => rfl)) rfl rfl ?_
  refine TrL.fin ?_
  refine End.nxt ?_
  refine Tr.seq ?_
  refine Tr.rg ?_
  refine TrL.op (ok_ldBS rfl (fun _ => rfl)) rfl rfl ?_
  refine TrL.op (ok_ldBS rfl (fun _ => rfl)) rfl rfl ?_
  refine TrL.op (ok_move rfl (fun _ => rfl)) rfl rfl ?_
  refine TrL.op (ok_call (fun hp => ct_oCheckMap _ _ _ _) (.s rfl (fun _ => rfl) rfl <| .s rfl (fun _ => rfl) rfl <| .a rfl (fun _ => rfl) <| .a rfl (fun _ => rfl) <| .nil)) rfl rfl ?_
  refine TrL.op (ok_assign rfl (fun _ => rfl)) rfl rfl ?_
  refine TrL.fin ?_
  refine End.nxt ?_
  refine Tr.ret ?_
  exact Rts.res1 (fn := Try.f46) rfl (.i rfl (by first | rfl | omega | (simp; done) | (simp; omega) | assumption) <| .nil)

set_option maxRecDepth 100000 in
theorem ct_OrigamiProofs (a b : Ori) (f : List Int) : Ct Try.prog 8 [kRd eO a, kRd eO b, kRd (eL eI) f] (kB true) := by
  refine Ct.mk Try.func8 rfl Try.ntmps8 rfl (fun w J => ?_)
  refine Tr.seq ?_
  refine Tr.rg ?_
  refine TrL.new (ok_box 3 rfl (fun _ => rfl) rfl) rfl rfl rfl rfl ?_
  refine TrL.new (ok_box 4 rfl (fun _ => rfl) rfl) rfl rfl rfl rfl ?_
  refine TrL.op (ok_assign rfl (fun _ => rfl)) rfl rfl ?_
  refine TrL.fin ?_
  refine End.nxt ?_
  refine Tr.seq ?_
  refine Tr.seq ?_
  refine Tr.rg ?_
  refine TrL.op (ok_call (fun hp => ct_awake) (.nil)) rfl rfl ?_
  refine TrL.op (ok_not rfl (fun _ => rfl)) rfl rfl ?_
  refine TrL.fin ?_
  refine End.nxt ?_
  refine Tr.cnd rfl ?_ ?_
  · intro h1
    simp at h1
  · intro h1
    refine Tr.skip ?_
    refine End.nxt ?_
    refine Tr.seq ?_
    refine Tr.seq ?_
    refine Tr.rg ?_
    refine TrL.op (ok_ldBS rfl (fun _ => rfl)) rfl rfl ?_
    refine TrL.op (ok_call (fun hp => ct_Few _) (.s rfl (fun _ => rfl) rfl <| .nil)) rfl rfl ?_
    refine TrL.op (ok_not rfl (fun _ => rfl)) rfl rfl ?_
    refine TrL.op (ok_move rfl (fun _ => rfl)) rfl rfl ?_
    refine TrL.gd rfl rfl rfl (ok_ldBS rfl (fun _ => rfl)) rfl rfl ?_
    refine TrL.gd rfl rfl rfl (ok_call (fun hp => ct_Few _) (.s rfl id rfl <| .nil)) rfl rfl ?_
    refine TrL.gd rfl rfl rfl (ok_not rfl id) rfl rfl ?_
    refine TrL.op (ok_or rfl (fun _ => rfl) rfl (fun hp h => gdF2 ((fun _ => rfl) hp) h)) rfl rfl ?_
    refine TrL.op (ok_move rfl (fun _ => rfl)) rfl rfl ?_
    refine TrL.gd rfl rfl rfl (ok_move rfl (fun _ => rfl)) rfl rfl ?_
    refine TrL.gd rfl rfl rfl (ok_lenJ rfl id) rfl rfl ?_
    refine TrL.gd rfl rfl rfl (ok_gtr rfl id rfl (fun _ => rfl)) rfl rfl ?_
    refine TrL.op (ok_or rfl (fun _ => rfl) rfl (fun hp h => gdF2 ((fun _ => rfl) hp) h)) rfl rfl ?_
    refine TrL.fin ?_
    refine End.nxt ?_
    refine Tr.cnd rfl ?_ ?_
    · intro h3
      refine Tr.seq ?_
      refine Tr.rg ?_
      refine TrL.op (ok_assign rfl (fun _ => rfl)) rfl rfl ?_
      refine TrL.fin ?_
      refine End.nxt ?_
      refine Tr.ret ?_
      refine Rts.thn ?_
      exact Rts.res1 (fn := Try.f8) rfl (.b rfl (by rfl) <| .nil)
    · intro h3
      refine Tr.skip ?_
      refine End.nxt ?_
      refine Tr.seq ?_
      refine Tr.draw 17 mixed (by kernel_rfl) ?_
      refine RunD.op (ok_ldBS rfl (fun _ => rfl)) rfl rfl ?_
      refine RunD.op (ok_ldBS rfl (fun _ => rfl)) rfl rfl ?_
      refine RunD.op (ok_move rfl (fun _ => rfl)) rfl rfl ?_
      refine RunD.op (ok_call (fun hp => ct_oCheckIsomorphism _ _ _) (.s rfl (fun _ => rfl) rfl <| .s rfl (fun _ => rfl) rfl <| .a rfl (fun _ => rfl) <| .nil)) rfl rfl ?_
      refine RunD.op (ok_ldBS rfl (fun _ => rfl)) rfl rfl ?_
      refine RunD.op (ok_ldBS rfl (fun _ => rfl)) rfl rfl ?_
      refine RunD.op (ok_move rfl (fun _ => rfl)) rfl rfl ?_
      refine RunD.op (ok_call (fun hp => ct_rCheckMap _ _ _ _) (.s rfl (fun _ => rfl) rfl <| .s rfl (fun _ => rfl) rfl <| .a rfl (fun _ => rfl) <| .a rfl (fun _ => rfl) <| .nil)) rfl rfl ?_
      refine RunD.op (ok_eql rfl (fun _ => rfl) rfl (fun _ => rfl)) rfl rfl ?_
      refine RunD.op (ok_move rfl (fun _ => rfl)) rfl rfl ?_
      refine RunD.gd rfl rfl rfl (ok_ldBS rfl (fun _ => rfl)) rfl rfl ?_
      refine RunD.gd rfl rfl rfl (ok_ldBS rfl (fun _ => rfl)) rfl rfl ?_
      refine RunD.gd rfl rfl rfl (ok_move rfl (fun _ => rfl)) rfl rfl ?_
      refine RunD.gd rfl rfl rfl (ok_call (fun hp => ct_oCheckCovering _ _ _) (.s rfl id rfl <| .s rfl id rfl <| .a rfl id <| .nil)) rfl rfl ?_
      refine RunD.gd rfl rfl rfl (ok_ldBS rfl (fun _ => rfl)) rfl rfl ?_
      refine RunD.gd rfl rfl rfl (ok_ldBS rfl (fun _ => rfl)) rfl rfl ?_
      refine RunD.gd rfl rfl rfl (ok_move rfl (fun _ => rfl)) rfl rfl ?_
      refine RunD.z ?_
      refine TrL.gd rfl rfl rfl (ok_call (fun hp => ct_rCheckMap _ _ _ _) (.s rfl id rfl <| .s rfl id rfl <| .a rfl id <| .a rfl (fun _ => rfl) <| .nil)) rfl rfl ?_
      refine TrL.gd rfl rfl rfl (ok_eql rfl id rfl id) rfl rfl ?_
      refine TrL.op (ok_and rfl (fun _ => rfl) rfl (fun hp h => gdT2 ((fun _ => rfl) hp) h)) rfl rfl ?_
      refine TrL.op (ok_assign rfl (fun _ => rfl)) rfl rfl ?_
      refine TrL.fin ?_
      refine End.nxt ?_
      refine Tr.ret ?_
      exact Rts.res1 (fn := Try.f8) rfl (.b rfl (by simp) <| .nil)

end Go.Fl

/- Maps along the search; the reference's maps. Plain Lean, no program in sight. -/
namespace Go.Fl
theorem nth_fst2 {p q r s : Int} {j : Nat} (h : j < 2) : (nth [(p, q, ()), (r, s, ())] j).1 = nth [p, r] j ∧ (nth [(p, q, ()), (r, s, ())] j).2.1 = nth [q, s] j := by
  rcases j with _ | _ | j
  · exact ⟨rfl, rfl⟩
  · exact ⟨rfl, rfl⟩
  · omega
/-- The state of a map at the k-th square of the search, j neighbours looked at; f0: the map when the square was taken up. -/
structure MpSt (a b : Ori) (s : Int) (k j : Nat) (f0 f : List Int) : Prop where
  st : MapSt a b s (srch a [] 0 k j) f
  kp : Kept a b (srch a [] 0 k j) f k j
  same : ap f (nth (bfsTo a [] 0 k) k) = ap f0 (nth (bfsTo a [] 0 k) k)
section
variable {a b : Ori} {s : Int} {k j : Nat} {f0 f : List Int}
theorem srch_nth (hk : k < (bfsTo a [] 0 k).length) : nth (srch a [] 0 k j) k = nth (bfsTo a [] 0 k) k ∧ k < (srch a [] 0 k j).length := by
  obtain ⟨r, hr⟩ := addL_pre (F := []) (ys := (stp a (nth (bfsTo a [] 0 k) k)).take j) (l := bfsTo a [] 0 k)
  unfold srch
  rw [hr]
  exact ⟨nth_app_l hk, by rw [List.length_append]; omega⟩
theorem MpSt.start (h : MapSt a b s (bfsTo a [] 0 k) f0) (hk : Kept a b (bfsTo a [] 0 k) f0 k 0) : MpSt a b s k 0 f0 f0 := ⟨h, hk, rfl⟩
theorem MpSt.old (va : Valid a) (hk : k < (bfsTo a [] 0 k).length) (hj : j < 2) (h : MpSt a b s k j f0 f) (hs : Good a.1.length ([] ++ [(0 : Int)])) (vb : Valid b) (e : ap f (nth (stp a (nth (bfsTo a [] 0 k) k)) j) = nth (stp b (ap f0 (nth (bfsTo a [] 0 k) k))) j) :
    srch a [] 0 k (j + 1) = srch a [] 0 k j ∧ MpSt a b s k (j + 1) f0 f := by
  obtain ⟨hn, hl⟩ := srch_nth (j := j) hk
  have hx := srch_x va hs hk
  have hy := stp_nth_sq va hx hj
  have hz := stp_nth_sq vb (h.st.inn _ (hn ▸ nth_mem hl)) hj
  rw [h.same] at hz
  have hm : nth (stp a (nth (bfsTo a [] 0 k) k)) j ∈ srch a [] 0 k j := Classical.byContradiction fun hh => by
    have := h.st.out _ hy hh
    rw [this] at e; have := hz.1; omega
  have e1 : srch a [] 0 k (j + 1) = srch a [] 0 k j := srch_in hj (by simpa using hm)
  refine ⟨e1, ⟨by rw [e1]; exact h.st, ?_, h.same⟩⟩
  rw [e1]
  exact h.kp.same (by rw [hn]; exact hm) (by rw [hn, h.same]; exact e)
theorem MpSt.new (va : Valid a) (hk : k < (bfsTo a [] 0 k).length) (hj : j < 2) (h : MpSt a b s k j f0 f) (hs : Good a.1.length ([] ++ [(0 : Int)])) (vb : Valid b) (e : ap f (nth (stp a (nth (bfsTo a [] 0 k) k)) j) = -1) :
    srch a [] 0 k (j + 1) = srch a [] 0 k j ++ [nth (stp a (nth (bfsTo a [] 0 k) k)) j] ∧ MpSt a b s k (j + 1) f0 (f.set (nth (stp a (nth (bfsTo a [] 0 k) k)) j).toNat (nth (stp b (ap f0 (nth (bfsTo a [] 0 k) k))) j)) := by
  obtain ⟨hn, hl⟩ := srch_nth (j := j) hk
  have hx := srch_x va hs hk
  have hy := stp_nth_sq va hx hj
  have hxm : nth (bfsTo a [] 0 k) k ∈ srch a [] 0 k j := hn ▸ nth_mem hl
  have hz := stp_nth_sq vb (h.st.inn _ hxm) hj
  have hm : nth (stp a (nth (bfsTo a [] 0 k) k)) j ∉ srch a [] 0 k j := fun hh => by
    have := h.st.inn _ hh
    rw [e] at this; have := this.1; omega
  have e1 : srch a [] 0 k (j + 1) = srch a [] 0 k j ++ [nth (stp a (nth (bfsTo a [] 0 k) k)) j] := srch_new hj (by simpa using hm)
  rw [← h.same]
  refine ⟨e1, ⟨?_, ?_, ?_⟩⟩
  · rw [e1]
    exact h.st.more hy hm hz fun g hg e' => by rw [h.st.hom g hg e' _ hxm]; exact hom_stp hg hx hj
  · rw [e1]
    exact Kept.more h.st hl h.kp hy hm hz (by rw [hn]) (by rw [hn])
  · rw [ap_set hy.1 (by rw [h.st.len]; exact hx), if_neg (fun e' => hm (by rw [e']; exact hxm))]
    exact h.same
theorem MpSt.clash (va : Valid a) (hk : k < (bfsTo a [] 0 k).length) (hj : j < 2) (h : MpSt a b s k j f0 f) (h1 : ap f (nth (stp a (nth (bfsTo a [] 0 k) k)) j) ≠ nth (stp b (ap f0 (nth (bfsTo a [] 0 k) k))) j) (h2 : ap f (nth (stp a (nth (bfsTo a [] 0 k) k)) j) ≠ -1) : homAt a b s = none := by
  obtain ⟨hn, hl⟩ := srch_nth (j := j) hk
  exact map_clash va h.st hl hj (by rw [hn, h.same]; exact h1) (by rw [hn]; exact h2)
theorem MpSt.fin (hk : k < (bfsTo a [] 0 k).length) (h : MpSt a b s k 2 f0 f) : MapSt a b s (bfsTo a [] 0 (k + 1)) f ∧ Kept a b (bfsTo a [] 0 (k + 1)) f (k + 1) 0 := by
  have h1 := h.st; have h2 := h.kp
  rw [srch_two hk] at h1 h2
  exact ⟨h1, h2.next⟩
end
theorem map_end {a b : Ori} (va : Valid a) (ca : Conn a) {s : Int} {k : Nat} {f : List Int} (hs : Good a.1.length ([] ++ [(0 : Int)])) (hk : (bfsTo a [] 0 k).length ≤ k) (h : MapSt a b s (bfsTo a [] 0 k) f) (hp : Kept a b (bfsTo a [] 0 k) f k 0) : homAt a b s = some f := by
  have e := bfs_of va hs hk
  have hp' : Kept a b (bfsTo a [] 0 k) f (bfsTo a [] 0 k).length 0 := fun j q hj hq _ => hp j q hj hq (.inl (by omega))
  rw [e] at h hp'
  exact kept_hom va ca h hp'
theorem mapSt_start {a b : Ori} (v : Valid a) {s : Int} (hs : Sq b.1.length s) : MapSt a b s (bfsTo a [] 0 0) ((List.replicate a.1.length (-1 : Int)).set 0 s) ∧ Kept a b (bfsTo a [] 0 0) ((List.replicate a.1.length (-1 : Int)).set 0 s) 0 0 :=
  ⟨MapSt.start v hs, fun _ _ _ _ h => by omega⟩
noncomputable def covE (a b : Ori) : Int := orE (chk2 a b) (if (mapsL a b).length = 0 then 11 else 0)
noncomputable def covL (a b : Ori) : List Int := if covE a b = 0 then nth (mapsL a b) 0 else []
noncomputable def isoE (a b : Ori) : Int := orE (chk2 a b) (if a.1.length ≠ b.1.length ∨ (mapsL a b).length = 0 then 11 else 0)
noncomputable def isoL (a b : Ori) : List Int := if isoE a b = 0 then nth (mapsL a b) 0 else []
theorem mt_fill {n : Nat} : fillTo 0 (fun _ => (-1 : Int)) n n = List.replicate n (-1) := by
  rw [fillTo_all, tab_rep]; rfl
end Go.Fl

/- Elements of an array of the call's own. No program in sight. -/
namespace Go.Fl
open Go Go.RowKit
section
variable {P : Program} {c : Ctx} {S : Slots} {M : Conts} {p : Bool} {d : Option Tmp} {ty : TypeId} {pos : String} {af : Array Edge} {gd : Option (Nat × Bool)} {x y : Operand} {b b' : Bool}
theorem ok_idxArrO {t et : TypeId} {n : Nat} [ht : TyArr P t n et] {sz by' : Nat} {zz : Value} [hz : TySz P et sz by' zz] {u o : Nat} {ik : IntKind} {i : Int} (hx : opK S x = some (b, kOwn u o)) (hb : p = true → b = true) (hy : opK S y = some (b', kInt ik i)) (hb' : p = true → b' = true) (h : p = true → 0 ≤ i ∧ i < n) :
    OpOk P c S M ⟨d, .indexAddr t x y, ty, pos, af, gd⟩ p (kOwn u (o + i.toNat * sz)) none :=
  OpOk.pure fun hp a g w _ _ ho => by
    obtain ⟨bl, cap, h1, h2⟩ := ho x (by simp [Op.operands]) b _ hx (hb hp)
    have h3 : a.eval y = _ := ho y (by simp [Op.operands]) b' _ hy (hb' hp)
    have hlt := h hp
    obtain ⟨ti, hi, rfl, _, _⟩ := hz.h
    refine ⟨.pointer (some ⟨bl, o + i.toNat * ti.size, none⟩), ?_, bl, cap, h1, rfl⟩
    simp [execOp, h2, h3, Instr.indexAt, run_underlying ht.h, asIntOf, hlt, sizeOf, typeInfo, hi, Instr.sureAddr, Addr.add_lit]
end
end Go.Fl

/- Contracts: maps; the law of maps. -/
namespace Go.Fl
open Go Go.Proofs


theorem opt_get {o : Option (List Int)} (h : o.isSome = true) : o = some (o.getD []) := by cases o with
  | none => cases h
  | some x => rfl
theorem opt_none {o : Option (List Int)} (h : o.isSome = false) : o = none := by cases o with
  | none => rfl
  | some x => cases h

set_option maxRecDepth 100000 in
set_option maxHeartbeats 2000000 in
theorem ct_mapTo (a b : Ori) (s : Int) (va : Valid a) (ca : Conn a) (vb : Valid b) (hs : Sq b.1.length s) : Ct Try.prog 124 [kRd eO a, kRd eO b, kI s] (kTup [kIf (homAt a b s).isSome (kRd (eL eI) ((homAt a b s).getD [])) (kDet (.slice none 0 0)), kB (homAt a b s).isSome]) := by
  have hv0 := va.pos
  have hv1 := va.len
  have hv2 := va.le
  have hw1 := vb.len
  have h00 : Sq a.1.length 0 := ⟨by omega, by omega⟩
  have hg0 := good1 h00
  refine Ct.mk Try.func124 rfl Try.ntmps124 rfl (fun w J => ?_)
  refine Tr.seq ?_
  refine Tr.rg ?_
  refine TrL.new (ok_box 3 rfl (fun _ => rfl) rfl) rfl rfl rfl rfl ?_
  refine TrL.new (ok_box 4 rfl (fun _ => rfl) rfl) rfl rfl rfl rfl ?_
  refine TrL.op (ok_assign rfl (fun _ => rfl)) rfl rfl ?_
  refine TrL.op (ok_assign rfl (fun _ => rfl)) rfl rfl ?_
  refine TrL.fin ?_
  refine End.nxt ?_
  refine Tr.seq ?_
  refine Tr.rg ?_
  refine TrL.op (ok_bslJ eI (fun hp => .cons rfl <| .nil) rfl rfl rfl rfl) rfl rfl ?_
  refine TrL.op (ok_fldO rfl (fun _ => rfl)) rfl rfl ?_
  refine TrL.op (ok_ldB rfl (fun _ => rfl) rfl) rfl rfl ?_
  refine TrL.op (ok_lenJ rfl (fun _ => rfl)) rfl rfl ?_
  refine TrL.new (ok_callN 18 (fun hp => ct_RepeatN _ _ (by omega) (by omega)) (.a rfl (fun _ => rfl) <| .a rfl (fun _ => rfl) <| .nil)) rfl rfl rfl rfl ?_
  refine TrL.op (ok_assign rfl (fun _ => rfl)) rfl rfl ?_
  refine TrL.fin ?_
  refine End.nxt ?_
  refine Tr.seq ?_
  refine Tr.rg ?_
  refine TrL.op (ok_move rfl (fun _ => rfl)) rfl rfl ?_
  refine TrL.op (ok_move rfl (fun _ => rfl)) rfl rfl ?_
  first | refine TrL.op (ok_idxEN rfl (fun _ => rfl) rfl (fun _ => rfl) (fun _ => by omega)) rfl rfl ?_ | refine TrL.op (ok_idxE rfl (fun _ => rfl) rfl (fun _ => rfl) (fun _ => by omega)) rfl rfl ?_
  refine TrL.stE rfl rfl rfl rfl rfl ?_
  refine TrL.fin ?_
  refine End.nxt ?_
  refine Tr.seq ?_
  refine Tr.rg ?_
  refine TrL.new (ok_bsl eI 22 (fun hp => .cons rfl <| .nil) rfl rfl rfl rfl) rfl rfl rfl rfl ?_
  refine TrL.op (ok_assign rfl (fun _ => rfl)) rfl rfl ?_
  refine TrL.fin ?_
  refine End.nxt ?_
  refine Tr.seq ?_
  refine Tr.seq ?_
  refine Tr.rg ?_
  refine TrL.op (ok_assign rfl (fun _ => rfl)) rfl rfl ?_
  refine TrL.fin ?_
  refine End.nxt ?_
  refine Tr.for1 (σ := Nat × List Int) [⟨3, true, _, _⟩, ⟨4, true, _, _⟩, ⟨8, true, _, _⟩] [⟨3, _, _⟩, ⟨4, _, _⟩] (fun (k, f0) => [⟨9, true, [22], kOsl 22 (bfsTo a [] 0 k).length⟩, ⟨10, true, [], kI (k : Int)⟩]) (fun (k, f0) => [⟨18, [], cArr false 3 eI f0 a.1.length⟩, ⟨22, [], cArr false 3 eI (bfsTo a [] 0 k) (bfsTo a [] 0 k).length⟩]) (fun (k, f0) => k ≤ a.1.length ∧ MapSt a b s (bfsTo a [] 0 k) f0 ∧ Kept a b (bfsTo a [] 0 k) f0 k 0) (fun (k, f0) => homAt a b s = some f0) (fun (k, f0) => a.1.length - k) ((0, (List.replicate a.1.length (-1 : Int)).set 0 s)) ⟨Nat.zero_le _, mapSt_start va hs⟩ (Ent.mk (.o rfl (by first | rfl | omega | (simp; done) | (simp; omega) | assumption) rfl <| .i rfl (by first | rfl | omega | (simp; done) | (simp; omega) | assumption) <| .k rfl rfl <| .k rfl rfl <| .k rfl rfl <| .nil) (.a (by first | rfl | omega | (simp; done) | (simp; omega) | assumption) (by first | rfl | omega | (simp; done) | (simp; omega) | assumption) <| .a (by first | rfl | omega | (simp; done) | (simp; omega) | assumption) (by first | rfl | omega | (simp; done) | (simp; omega) | assumption) <| .k rfl <| .k rfl <| .nil) rfl) ?_ ?_
  · rintro ⟨k, f0⟩ ⟨hk, hst, hkp⟩
    refine Tr.norm (S' := [⟨9, true, _, _⟩, ⟨10, true, _, _⟩, ⟨3, true, _, _⟩, ⟨4, true, _, _⟩, ⟨8, true, _, _⟩]) (M' := [⟨18, _, _⟩, ⟨22, _, _⟩, ⟨3, _, _⟩, ⟨4, _, _⟩]) rfl rfl ?_
    have hlen := bfsTo_len va hg0 k
    have hfl := hst.len
    have hxr := fun h => srch_x va hg0 (k := k) h
    have hin := fun h => hst.inn _ (nth_mem (i := k) h)
    refine Tr.seq ?_
    refine Tr.seq ?_
    refine Tr.rg ?_
    refine TrL.op (ok_move rfl (fun _ => rfl)) rfl rfl ?_
    refine TrL.op (ok_move rfl (fun _ => rfl)) rfl rfl ?_
    refine TrL.op (ok_lenO rfl (fun _ => rfl)) rfl rfl ?_
    refine TrL.op (ok_lss rfl (fun _ => rfl) rfl (fun _ => rfl)) rfl rfl ?_
    refine TrL.fin ?_
    refine End.nxt ?_
    refine Tr.cnd rfl ?_ ?_
    · intro h5
      replace h5 := of_decide_eq_true h5
      have hlt : k < (bfsTo a [] 0 k).length := by omega
      have hx := hxr hlt
      have hx0 := hx.1
      have hx1 := hx.2
      have hz := hin hlt
      have hz0 : 0 ≤ nth f0 (nth (bfsTo a [] 0 k) k).toNat := hz.1
      have hz1 : nth f0 (nth (bfsTo a [] 0 k) k).toNat < b.1.length := hz.2
      have a1 := va.ri (i := (nth (bfsTo a [] 0 k) k).toNat) (by omega)
      have a2 := va.ui (i := (nth (bfsTo a [] 0 k) k).toNat) (by omega)
      refine Tr.skip ?_
      refine End.nxt ?_
      refine Tr.seq ?_
      refine Tr.blk ?_
      refine Tr.seq ?_
      refine Tr.rg ?_
      refine TrL.op (ok_move rfl (fun _ => rfl)) rfl rfl ?_
      refine TrL.op (ok_move rfl (fun _ => rfl)) rfl rfl ?_
      first | refine TrL.op (ok_idxEN rfl (fun _ => rfl) rfl (fun _ => rfl) (fun _ => by omega)) rfl rfl ?_ | refine TrL.op (ok_idxE rfl (fun _ => rfl) rfl (fun _ => rfl) (fun _ => by omega)) rfl rfl ?_
      refine TrL.op (ok_ldE rfl (fun _ => rfl) rfl rfl rfl) rfl rfl ?_
      refine TrL.op (ok_assign rfl (fun _ => rfl)) rfl rfl ?_
      refine TrL.fin ?_
      refine End.nxt ?_
      refine Tr.seq ?_
      refine Tr.draw 30 mixed (by kernel_rfl) ?_
      refine RunD.op (ok_fldO rfl (fun _ => rfl)) rfl rfl ?_
      refine RunD.op (ok_ldB rfl (fun _ => rfl) rfl) rfl rfl ?_
      refine RunD.op (ok_move rfl (fun _ => rfl)) rfl rfl ?_
      first | refine RunD.op (ok_idxN rfl (fun _ => rfl) rfl (fun _ => rfl) rfl (fun _ => by omega)) rfl rfl ?_ | refine RunD.op (ok_idxP rfl (fun _ => rfl) rfl (fun _ => rfl) rfl (fun _ => by omega)) rfl rfl ?_
      refine RunD.op (ok_ldP rfl (fun _ => rfl) rfl) rfl rfl ?_
      refine RunD.op (ok_fldO rfl (fun _ => rfl)) rfl rfl ?_
      refine RunD.op (ok_ldB rfl (fun _ => rfl) rfl) rfl rfl ?_
      refine RunD.op (ok_move rfl (fun _ => rfl)) rfl rfl ?_
      refine RunD.op (ok_move rfl (fun _ => rfl)) rfl rfl ?_
      first | refine RunD.op (ok_idxEN rfl (fun _ => rfl) rfl (fun _ => rfl) (fun _ => by omega)) rfl rfl ?_ | refine RunD.op (ok_idxE rfl (fun _ => rfl) rfl (fun _ => rfl) (fun _ => by omega)) rfl rfl ?_
      refine RunD.op (ok_ldE rfl (fun _ => rfl) rfl rfl rfl) rfl rfl ?_
      first | refine RunD.op (ok_idxN rfl (fun _ => rfl) rfl (fun _ => rfl) rfl (fun _ => by omega)) rfl rfl ?_ | refine RunD.op (ok_idxP rfl (fun _ => rfl) rfl (fun _ => rfl) rfl (fun _ => by omega)) rfl rfl ?_
      refine RunD.op (ok_ldP rfl (fun _ => rfl) rfl) rfl rfl ?_
      refine RunD.op (ok_buildL [(0, 1), (1, 1)] rfl (fun hp => .cons rfl rfl rfl <| .cons rfl rfl rfl <| .nil)) rfl rfl ?_
      refine RunD.op (ok_fldO rfl (fun _ => rfl)) rfl rfl ?_
      refine RunD.op (ok_ldB rfl (fun _ => rfl) rfl) rfl rfl ?_
      refine RunD.op (ok_move rfl (fun _ => rfl)) rfl rfl ?_
      first | refine RunD.op (ok_idxN rfl (fun _ => rfl) rfl (fun _ => rfl) rfl (fun _ => by omega)) rfl rfl ?_ | refine RunD.op (ok_idxP rfl (fun _ => rfl) rfl (fun _ => rfl) rfl (fun _ => by omega)) rfl rfl ?_
      refine RunD.op (ok_ldP rfl (fun _ => rfl) rfl) rfl rfl ?_
      refine RunD.op (ok_fldO rfl (fun _ => rfl)) rfl rfl ?_
      refine RunD.op (ok_ldB rfl (fun _ => rfl) rfl) rfl rfl ?_
      refine RunD.op (ok_move rfl (fun _ => rfl)) rfl rfl ?_
      refine RunD.op (ok_move rfl (fun _ => rfl)) rfl rfl ?_
      first | refine RunD.op (ok_idxEN rfl (fun _ => rfl) rfl (fun _ => rfl) (fun _ => by omega)) rfl rfl ?_ | refine RunD.op (ok_idxE rfl (fun _ => rfl) rfl (fun _ => rfl) (fun _ => by omega)) rfl rfl ?_
      refine RunD.op (ok_ldE rfl (fun _ => rfl) rfl rfl rfl) rfl rfl ?_
      first | refine RunD.op (ok_idxN rfl (fun _ => rfl) rfl (fun _ => rfl) rfl (fun _ => by omega)) rfl rfl ?_ | refine RunD.op (ok_idxP rfl (fun _ => rfl) rfl (fun _ => rfl) rfl (fun _ => by omega)) rfl rfl ?_
      refine RunD.op (ok_ldP rfl (fun _ => rfl) rfl) rfl rfl ?_
      refine RunD.op (ok_buildL [(0, 1), (1, 1)] rfl (fun hp => .cons rfl rfl rfl <| .cons rfl rfl rfl <| .nil)) rfl rfl ?_
      refine RunD.op (ok_buildL [(0, 2), (2, 2)] rfl (fun hp => .cons rfl rfl rfl <| .cons rfl rfl rfl <| .nil)) rfl rfl ?_
      refine RunD.op (ok_move rfl (fun _ => rfl)) rfl rfl ?_
      refine RunD.z ?_
      refine TrL.fin ?_
      refine End.nxt ?_
      refine Tr.for1 (σ := Nat × List Int) [⟨3, true, _, _⟩, ⟨4, true, _, _⟩, ⟨8, true, _, _⟩, ⟨10, true, _, _⟩, ⟨61, true, _, _⟩] [⟨3, _, _⟩, ⟨4, _, _⟩] (fun (j, f) => [⟨9, true, [22], kOsl 22 (srch a [] 0 k j).length⟩, ⟨62, true, [], kI (j : Int)⟩]) (fun (j, f) => [⟨18, [], cArr false 3 eI f a.1.length⟩, ⟨22, [], cArr false 3 eI (srch a [] 0 k j) (srch a [] 0 k j).length⟩]) (fun (j, f) => j ≤ 2 ∧ MpSt a b s k j f0 f) (fun (j, f) => j = 2 ∧ MpSt a b s k 2 f0 f) (fun (j, f) => 2 - j) ((0, f0)) ⟨by omega, MpSt.start hst hkp⟩ (Ent.mk (.o rfl (by first | rfl | omega | (simp; done) | (simp; omega) | assumption) rfl <| .i rfl (by first | rfl | omega | (simp; done) | (simp; omega) | assumption) <| .k rfl rfl <| .k rfl rfl <| .k rfl rfl <| .k rfl rfl <| .k rfl rfl <| .nil) (.a (by first | rfl | omega | (simp; done) | (simp; omega) | assumption) (by first | rfl | omega | (simp; done) | (simp; omega) | assumption) <| .a (by first | rfl | omega | (simp; done) | (simp; omega) | assumption) (by first | rfl | omega | (simp; done) | (simp; omega) | assumption) <| .k rfl <| .k rfl <| .nil) rfl) ?_ ?_
      · rintro ⟨j, f⟩ ⟨hj, hmp⟩
        refine Tr.norm (S' := [⟨9, true, _, _⟩, ⟨62, true, _, _⟩, ⟨3, true, _, _⟩, ⟨4, true, _, _⟩, ⟨8, true, _, _⟩, ⟨10, true, _, _⟩, ⟨61, true, _, _⟩]) (M' := [⟨18, _, _⟩, ⟨22, _, _⟩, ⟨3, _, _⟩, ⟨4, _, _⟩]) rfl rfl ?_
        have hfl2 := hmp.st.len
        have hgl := srch_len (j := j) va hg0 hlt
        refine Tr.seq ?_
        refine Tr.rg ?_
        refine TrL.op (ok_lss rfl (fun _ => rfl) rfl (fun _ => rfl)) rfl rfl ?_
        refine TrL.fin ?_
        refine End.nxt ?_
        refine Tr.seq ?_
        refine Tr.cnd rfl ?_ ?_
        · intro h9
          replace h9 := of_decide_eq_true h9
          have hj2 : j < 2 := by omega
          obtain ⟨hyA, hyB⟩ := nth_fst2 (p := nth a.1 (nth (bfsTo a [] 0 k) k).toNat) (q := nth b.1 (nth f0 (nth (bfsTo a [] 0 k) k).toNat).toNat) (r := nth a.2 (nth (bfsTo a [] 0 k) k).toNat) (s := nth b.2 (nth f0 (nth (bfsTo a [] 0 k) k).toNat).toNat) hj2
          have hy := stp_nth_sq va hx hj2
          have hyS : Sq a.1.length (nth [(nth a.1 (nth (bfsTo a [] 0 k) k).toNat, nth b.1 (nth f0 (nth (bfsTo a [] 0 k) k).toNat).toNat, ()), (nth a.2 (nth (bfsTo a [] 0 k) k).toNat, nth b.2 (nth f0 (nth (bfsTo a [] 0 k) k).toNat).toNat, ())] j).1 := by rw [hyA]; exact hy
          have hy0 := hyS.1
          have hy1 := hyS.2
          refine Tr.skip ?_
          refine End.nxt ?_
          refine Tr.seq ?_
          refine Tr.blk ?_
          refine Tr.seq ?_
          refine Tr.rg ?_
          refine TrL.op (ok_idxAA (eP eI (eP eI eU)) rfl (fun _ => rfl) rfl (fun _ => rfl) rfl rfl rfl (fun _ => ⟨by omega, by simp; omega⟩)) rfl rfl ?_
          refine TrL.new (ok_alloc 13) rfl rfl rfl rfl ?_
          refine TrL.stB rfl rfl rfl rfl ?_
          refine TrL.fin ?_
          refine End.nxt ?_
          refine Tr.seq ?_
          refine Tr.rg ?_
          refine TrL.op (ok_move rfl (fun _ => rfl)) rfl rfl ?_
          refine TrL.op (ok_idxArrO rfl (fun _ => rfl) rfl (fun _ => rfl) (fun _ => by decide)) rfl rfl ?_
          refine TrL.op (ok_ldB rfl (fun _ => rfl) rfl) rfl rfl ?_
          first | refine TrL.op (ok_idxEN rfl (fun _ => rfl) rfl (fun _ => rfl) (fun _ => by omega)) rfl rfl ?_ | refine TrL.op (ok_idxE rfl (fun _ => rfl) rfl (fun _ => rfl) (fun _ => by omega)) rfl rfl ?_
          refine TrL.op (ok_ldE rfl (fun _ => rfl) rfl rfl rfl) rfl rfl ?_
          refine TrL.fin ?_
          refine End.nxt ?_
          refine Tr.blk ?_
          refine Tr.seq ?_
          refine Tr.rg ?_
          refine TrL.op (ok_idxArrO rfl (fun _ => rfl) rfl (fun _ => rfl) (fun _ => by decide)) rfl rfl ?_
          refine TrL.op (ok_ldB rfl (fun _ => rfl) rfl) rfl rfl ?_
          refine TrL.op (ok_eql rfl (fun _ => rfl) rfl (fun _ => rfl)) rfl rfl ?_
          refine TrL.op (ok_assign rfl (fun _ => rfl)) rfl rfl ?_
          refine TrL.fin ?_
          refine End.nxt ?_
          refine Tr.cnd rfl ?_ ?_
          · intro h13
            try simp only [decide_eq_true_eq] at h13
            have hcase : ap f (nth (stp a (nth (bfsTo a [] 0 k) k)) j) = nth (stp b (ap f0 (nth (bfsTo a [] 0 k) k))) j := by rw [hyA, hyB] at h13; exact h13
            refine Tr.skip ?_
            refine End.blk ?_
            refine End.blk ?_
            refine End.nxt ?_
            refine Tr.rg ?_
            refine TrL.op (ok_add rfl (fun _ => rfl) rfl (fun _ => rfl) (fun _ => by omega)) rfl rfl ?_
            refine TrL.op (ok_move rfl (fun _ => rfl)) rfl rfl ?_
            refine TrL.fin ?_
            exact End.lp ((j + 1, f)) ⟨by omega, (hmp.old va hlt hj2 hg0 vb hcase).2⟩ (show 2 - (j + 1) < 2 - j by omega) (Ent.mk (.o rfl (by rw [(hmp.old va hlt hj2 hg0 vb hcase).1]) rfl <| .i rfl (by first | rfl | omega | (simp; done) | (simp; omega) | assumption) <| .k rfl rfl <| .k rfl rfl <| .k rfl rfl <| .k rfl rfl <| .k rfl rfl <| .nil) (.a (by first | rfl | omega | (simp; done) | (simp; omega) | assumption) (by first | rfl | omega | (simp; done) | (simp; omega) | assumption) <| .a (by rw [(hmp.old va hlt hj2 hg0 vb hcase).1]) (by rw [(hmp.old va hlt hj2 hg0 vb hcase).1]) <| .k rfl <| .k rfl <| .nil) rfl)
          · intro h13
            try simp only [decide_eq_false_iff_not] at h13
            have hc1 : ap f (nth (stp a (nth (bfsTo a [] 0 k) k)) j) ≠ nth (stp b (ap f0 (nth (bfsTo a [] 0 k) k))) j := by rw [hyA, hyB] at h13; exact h13
            refine Tr.seq ?_
            refine Tr.rg ?_
            refine TrL.op (ok_eql rfl (fun _ => rfl) rfl (fun _ => rfl)) rfl rfl ?_
            refine TrL.op (ok_assign rfl (fun _ => rfl)) rfl rfl ?_
            refine TrL.fin ?_
            refine End.nxt ?_
            refine Tr.cnd rfl ?_ ?_
            · intro h14
              try simp only [decide_eq_true_eq] at h14
              have hcase : ap f (nth (stp a (nth (bfsTo a [] 0 k) k)) j) = -1 := by rw [hyA] at h14; exact h14
              refine Tr.seq ?_
              refine Tr.rg ?_
              refine TrL.op (ok_move rfl (fun _ => rfl)) rfl rfl ?_
              refine TrL.op (ok_idxArrO rfl (fun _ => rfl) rfl (fun _ => rfl) (fun _ => by decide)) rfl rfl ?_
              refine TrL.op (ok_ldB rfl (fun _ => rfl) rfl) rfl rfl ?_
              refine TrL.op (ok_idxArrO rfl (fun _ => rfl) rfl (fun _ => rfl) (fun _ => by decide)) rfl rfl ?_
              refine TrL.op (ok_ldB rfl (fun _ => rfl) rfl) rfl rfl ?_
              first | refine TrL.op (ok_idxEN rfl (fun _ => rfl) rfl (fun _ => rfl) (fun _ => by omega)) rfl rfl ?_ | refine TrL.op (ok_idxE rfl (fun _ => rfl) rfl (fun _ => rfl) (fun _ => by omega)) rfl rfl ?_
              refine TrL.stE rfl rfl rfl rfl rfl ?_
              refine TrL.fin ?_
              refine End.nxt ?_
              refine Tr.rg ?_
              refine TrL.op (ok_move rfl (fun _ => rfl)) rfl rfl ?_
              refine TrL.op (ok_idxArrO rfl (fun _ => rfl) rfl (fun _ => rfl) (fun _ => by decide)) rfl rfl ?_
              refine TrL.op (ok_ldB rfl (fun _ => rfl) rfl) rfl rfl ?_
              refine TrL.new (ok_bsl eI 85 (fun hp => .cons rfl <| .nil) rfl rfl rfl rfl) rfl rfl rfl rfl ?_
              refine TrL.app rfl rfl rfl rfl rfl rfl rfl rfl (by first | omega | (simp only [List.length_cons, List.length_nil]; omega)) (by first | omega | (simp only [List.length_cons, List.length_nil]; omega)) ?_
              refine TrL.norm (S' := ⟨_, _, _, _⟩ :: ⟨_, _, _, _⟩ :: ⟨_, _, _, _⟩ :: ⟨_, _, _, _⟩ :: ⟨_, _, _, _⟩ :: ⟨_, _, _, _⟩ :: ⟨_, _, _, _⟩ :: ⟨_, _, _, _⟩ :: ⟨_, _, _, _⟩ :: ⟨_, _, _, _⟩ :: ⟨_, _, _, _⟩ :: ⟨_, _, _, _⟩ :: ⟨_, _, _, _⟩ :: ⟨_, _, _, _⟩ :: ⟨_, _, _, _⟩ :: ⟨_, _, _, _⟩ :: ⟨_, _, _, _⟩ :: ⟨_, _, _, _⟩ :: ⟨_, _, _, _⟩ :: ⟨_, _, _, _⟩ :: ⟨_, _, _, _⟩ :: ⟨_, _, _, _⟩ :: ⟨_, _, _, _⟩ :: ⟨_, _, _, _⟩ :: ⟨_, _, _, _⟩ :: ⟨_, _, _, _⟩ :: ⟨_, _, _, _⟩ :: ⟨_, _, _, _⟩ :: ⟨_, _, _, _⟩ :: ⟨_, _, _, _⟩ :: ⟨_, _, _, _⟩ :: ⟨_, _, _, _⟩ :: []) rfl rfl ?_
              refine TrL.op (ok_assign rfl (fun _ => rfl)) rfl rfl ?_
              refine TrL.fin ?_
              refine End.blk ?_
              refine End.blk ?_
              refine End.nxt ?_
              refine Tr.rg ?_
              refine TrL.op (ok_add rfl (fun _ => rfl) rfl (fun _ => rfl) (fun _ => by omega)) rfl rfl ?_
              refine TrL.op (ok_move rfl (fun _ => rfl)) rfl rfl ?_
              refine TrL.fin ?_
              exact End.lp ((j + 1, f.set (nth (stp a (nth (bfsTo a [] 0 k) k)) j).toNat (nth (stp b (ap f0 (nth (bfsTo a [] 0 k) k))) j))) ⟨by omega, (hmp.new va hlt hj2 hg0 vb hcase).2⟩ (show 2 - (j + 1) < 2 - j by omega) (Ent.mk (.o rfl (by rw [(hmp.new va hlt hj2 hg0 vb hcase).1, List.length_append]; rfl) rfl <| .i rfl (by first | rfl | omega | (simp; done) | (simp; omega) | assumption) <| .k rfl rfl <| .k rfl rfl <| .k rfl rfl <| .k rfl rfl <| .k rfl rfl <| .nil) (.a (by rw [hyA, hyB]; rfl) (by first | rfl | omega | (simp; done) | (simp; omega) | assumption) <| .a (by rw [(hmp.new va hlt hj2 hg0 vb hcase).1, hyA]; rfl) (by rw [(hmp.new va hlt hj2 hg0 vb hcase).1, List.length_append]; rfl) <| .k rfl <| .k rfl <| .nil) rfl)
            · intro h14
              try simp only [decide_eq_false_iff_not] at h14
              have hno := hmp.clash va hlt hj2 hc1 (by rw [hyA] at h14; exact h14)
              refine Tr.seq ?_
              refine Tr.rg ?_
              refine TrL.op (ok_assign rfl (fun _ => rfl)) rfl rfl ?_
              refine TrL.op (ok_assign rfl (fun _ => rfl)) rfl rfl ?_
              refine TrL.fin ?_
              refine End.nxt ?_
              refine Tr.ret ?_
              refine Rts.out ?_
              refine Rts.out ?_
              refine Rts.thn ?_
              refine Rts.thn ?_
              refine Rts.out ?_
              refine Rts.thn ?_
              refine Rts.out ?_
              refine Rts.thn ?_
              refine Rts.thn ?_
              refine Rts.out ?_
              refine Rts.thn ?_
              refine Rts.thn ?_
              exact Rts.res (fn := Try.f124) (ts := [6, 7]) rfl rfl (.ifF rfl (by rw [hno]; rfl) (fun _ _ h => h) <| .b rfl (by rw [hno]; rfl) <| .nil)
        · intro h9
          replace h9 := Int.not_lt.1 (of_decide_eq_false h9)
          refine Tr.exit ?_
          refine Exs.thn ?_
          refine Exs.thn ?_
          refine Exs.here ?_
          exact End.cut ((j, f)) (by (obtain rfl : j = 2 := by omega); exact ⟨rfl, hmp⟩) (Ent.mk (.o rfl (by first | rfl | omega | (simp; done) | (simp; omega) | assumption) rfl <| .i rfl (by first | rfl | omega | (simp; done) | (simp; omega) | assumption) <| .k rfl rfl <| .k rfl rfl <| .k rfl rfl <| .k rfl rfl <| .k rfl rfl <| .nil) (.a (by first | rfl | omega | (simp; done) | (simp; omega) | assumption) (by first | rfl | omega | (simp; done) | (simp; omega) | assumption) <| .a (by first | rfl | omega | (simp; done) | (simp; omega) | assumption) (by first | rfl | omega | (simp; done) | (simp; omega) | assumption) <| .k rfl <| .k rfl <| .nil) rfl)
      · rintro ⟨j, f⟩ ⟨hj2, hmp⟩
        refine End.norm (S' := [⟨9, true, _, _⟩, ⟨62, true, _, _⟩, ⟨3, true, _, _⟩, ⟨4, true, _, _⟩, ⟨8, true, _, _⟩, ⟨10, true, _, _⟩, ⟨61, true, _, _⟩]) (M' := [⟨18, _, _⟩, ⟨22, _, _⟩, ⟨3, _, _⟩, ⟨4, _, _⟩]) rfl rfl ?_
        subst hj2
        refine End.blk ?_
        refine End.nxt ?_
        refine Tr.rg ?_
        refine TrL.op (ok_move rfl (fun _ => rfl)) rfl rfl ?_
        refine TrL.op (ok_add rfl (fun _ => rfl) rfl (fun _ => rfl) (fun _ => by omega)) rfl rfl ?_
        refine TrL.op (ok_assign rfl (fun _ => rfl)) rfl rfl ?_
        refine TrL.fin ?_
        exact End.lp ((k + 1, f)) ⟨by omega, hmp.fin hlt⟩ (show a.1.length - (k + 1) < a.1.length - k by omega) (Ent.mk (.o rfl (by rw [srch_two hlt]) rfl <| .i rfl (by first | rfl | omega | (simp; done) | (simp; omega) | assumption) <| .k rfl rfl <| .k rfl rfl <| .k rfl rfl <| .nil) (.a (by first | rfl | omega | (simp; done) | (simp; omega) | assumption) (by first | rfl | omega | (simp; done) | (simp; omega) | assumption) <| .a (by rw [srch_two hlt]) (by rw [srch_two hlt]) <| .k rfl <| .k rfl <| .nil) rfl)
    · intro h5
      replace h5 := Int.not_lt.1 (of_decide_eq_false h5)
      refine Tr.exit ?_
      refine Exs.thn ?_
      refine Exs.thn ?_
      refine Exs.here ?_
      exact End.cut ((k, f0)) (map_end va ca hg0 (by omega) hst hkp) (Ent.mk (.o rfl (by first | rfl | omega | (simp; done) | (simp; omega) | assumption) rfl <| .i rfl (by first | rfl | omega | (simp; done) | (simp; omega) | assumption) <| .k rfl rfl <| .k rfl rfl <| .k rfl rfl <| .nil) (.a (by first | rfl | omega | (simp; done) | (simp; omega) | assumption) (by first | rfl | omega | (simp; done) | (simp; omega) | assumption) <| .a (by first | rfl | omega | (simp; done) | (simp; omega) | assumption) (by first | rfl | omega | (simp; done) | (simp; omega) | assumption) <| .k rfl <| .k rfl <| .nil) rfl)
  · rintro ⟨k, f0⟩ hE0
    refine End.norm (S' := [⟨9, true, _, _⟩, ⟨10, true, _, _⟩, ⟨3, true, _, _⟩, ⟨4, true, _, _⟩, ⟨8, true, _, _⟩]) (M' := [⟨18, _, _⟩, ⟨22, _, _⟩, ⟨3, _, _⟩, ⟨4, _, _⟩]) rfl rfl ?_
    refine End.nxt ?_
    refine Tr.seq ?_
    refine Tr.rg ?_
    refine TrL.op (ok_move rfl (fun _ => rfl)) rfl rfl ?_
    refine TrL.op (ok_assign rfl (fun _ => rfl)) rfl rfl ?_
    refine TrL.op (ok_assign rfl (fun _ => rfl)) rfl rfl ?_
    refine TrL.fin ?_
    refine End.nxt ?_
    refine Tr.frz 18 [6] ⟨rfl, trivial⟩ (by simp only [lenMax]; omega) rfl ?_
    refine Tr.ret ?_
    exact Rts.res (fn := Try.f124) (ts := [6, 7]) rfl rfl (.ifT rfl (by rw [hE0]; rfl) (fun _ _ h => by rw [hE0]; exact h) <| .b rfl (by rw [hE0]; rfl) <| .nil)

set_option maxRecDepth 100000 in
theorem ct_maps (a b : Ori) (va : Valid a) (ca : Conn a) (vb : Valid b) : Ct Try.prog 100 [kRd eO a, kRd eO b] (kRd (eL (eL eI)) (mapsL a b)) := by
  have hv2 := vb.le
  refine Ct.mk Try.func100 rfl Try.ntmps100 rfl (fun w J => ?_)
  refine Tr.seq ?_
  refine Tr.rg ?_
  refine TrL.new (ok_box 2 rfl (fun _ => rfl) rfl) rfl rfl rfl rfl ?_
  refine TrL.new (ok_box 3 rfl (fun _ => rfl) rfl) rfl rfl rfl rfl ?_
  refine TrL.op (ok_assign rfl (fun _ => rfl)) rfl rfl ?_
  refine TrL.fin ?_
  refine End.nxt ?_
  refine Tr.seq ?_
  refine Tr.rg ?_
  refine TrL.op (ok_assign rfl (fun _ => rfl)) rfl rfl ?_
  refine TrL.fin ?_
  refine End.nxt ?_
  refine Tr.seq ?_
  refine Tr.seq ?_
  refine Tr.rg ?_
  refine TrL.op (ok_fldO rfl (fun _ => rfl)) rfl rfl ?_
  refine TrL.op (ok_ldB rfl (fun _ => rfl) rfl) rfl rfl ?_
  refine TrL.op (ok_lenJ rfl (fun _ => rfl)) rfl rfl ?_
  refine TrL.op (ok_move rfl (fun _ => rfl)) rfl rfl ?_
  refine TrL.fin ?_
  refine End.nxt ?_
  refine Tr.grow (s := 5) rfl rfl 5 rfl 22 (eL eI) rfl ?_
  refine Tr.for1 (σ := Nat) [⟨2, true, _, _⟩, ⟨3, true, _, _⟩, ⟨11, true, _, _⟩] [⟨2, _, _⟩, ⟨3, _, _⟩] (fun k => [⟨5, true, [5], kOsl 5 (mapsTo a b k).length⟩, ⟨12, true, [], kI (k : Int)⟩]) (fun k => [⟨5, [], cArr true 22 (eL eI) (mapsTo a b k) (mapsTo a b k).length⟩]) (fun k => k ≤ b.1.length) (fun k => k = b.1.length) (fun k => b.1.length - k) (0) (Nat.zero_le _) (Ent.mk (.o rfl (by first | rfl | omega | (simp; done) | (simp; omega) | assumption) rfl <| .i rfl (by first | rfl | omega | (simp; done) | (simp; omega) | assumption) <| .k rfl rfl <| .k rfl rfl <| .k rfl rfl <| .nil) (.a (by rfl) (by first | rfl | omega | (simp; done) | (simp; omega) | assumption) <| .k rfl <| .k rfl <| .nil) rfl) ?_ ?_
  · intro k hR0
    refine Tr.norm (S' := [⟨5, true, _, _⟩, ⟨12, true, _, _⟩, ⟨2, true, _, _⟩, ⟨3, true, _, _⟩, ⟨11, true, _, _⟩]) (M' := [⟨5, _, _⟩, ⟨2, _, _⟩, ⟨3, _, _⟩]) rfl rfl ?_
    have hml := mapsTo_len (a := a) (b := b) (k := k)
    refine Tr.seq ?_
    refine Tr.rg ?_
    refine TrL.op (ok_lss rfl (fun _ => rfl) rfl (fun _ => rfl)) rfl rfl ?_
    refine TrL.fin ?_
    refine End.nxt ?_
    refine Tr.seq ?_
    refine Tr.cnd rfl ?_ ?_
    · intro h3
      replace h3 := of_decide_eq_true h3
      have hks : Sq b.1.length (k : Int) := Sq.nat (by omega)
      refine Tr.skip ?_
      refine End.nxt ?_
      refine Tr.seq ?_
      refine Tr.blk ?_
      refine Tr.seq ?_
      refine Tr.rg ?_
      refine TrL.op (ok_move rfl (fun _ => rfl)) rfl rfl ?_
      refine TrL.op (ok_assign rfl (fun _ => rfl)) rfl rfl ?_
      refine TrL.fin ?_
      refine End.nxt ?_
      refine Tr.seq ?_
      refine Tr.rg ?_
      refine TrL.op (ok_ldBS rfl (fun _ => rfl)) rfl rfl ?_
      refine TrL.op (ok_ldBS rfl (fun _ => rfl)) rfl rfl ?_
      refine TrL.op (ok_move rfl (fun _ => rfl)) rfl rfl ?_
      refine TrL.op (ok_call (fun hp => ct_mapTo _ _ _ va ca vb hks) (.s rfl (fun _ => rfl) rfl <| .s rfl (fun _ => rfl) rfl <| .a rfl (fun _ => rfl) <| .nil)) rfl rfl ?_
      refine TrL.op (ok_move rfl (fun _ => rfl)) rfl rfl ?_
      refine TrL.op (ok_ext rfl (fun _ => rfl) rfl) rfl rfl ?_
      refine TrL.op (ok_ext rfl (fun _ => rfl) rfl) rfl rfl ?_
      refine TrL.op (ok_assign rfl (fun _ => rfl)) rfl rfl ?_
      refine TrL.op (ok_assign rfl (fun _ => rfl)) rfl rfl ?_
      refine TrL.fin ?_
      refine End.nxt ?_
      refine Tr.seq ?_
      refine Tr.rg ?_
      refine TrL.op (ok_move rfl (fun _ => rfl)) rfl rfl ?_
      refine TrL.fin ?_
      refine End.nxt ?_
      refine Tr.cnd rfl ?_ ?_
      · intro h6
        have hsm : homAt a b k = some ((homAt a b k).getD []) := opt_get h6
        refine Tr.ifT (s := 7) rfl h6 rfl ?_
        refine Tr.rg ?_
        refine TrL.op (ok_move rfl (fun _ => rfl)) rfl rfl ?_
        refine TrL.op (ok_move rfl (fun _ => rfl)) rfl rfl ?_
        refine TrL.new (ok_bsl (eL eI) 25 (fun hp => .cons rfl <| .nil) rfl rfl rfl rfl) rfl rfl rfl rfl ?_
        refine TrL.app rfl rfl rfl rfl rfl rfl rfl rfl (by first | omega | (simp only [List.length_cons, List.length_nil]; omega)) (by first | omega | (simp only [List.length_cons, List.length_nil]; omega)) ?_
        refine TrL.norm (S' := [⟨_, _, _, _⟩, ⟨_, _, _, _⟩, ⟨_, _, _, _⟩, ⟨_, _, _, _⟩, ⟨_, _, _, _⟩, ⟨_, _, _, _⟩, ⟨_, _, _, _⟩, ⟨_, _, _, _⟩, ⟨_, _, _, _⟩, ⟨_, _, _, _⟩, ⟨_, _, _, _⟩, ⟨_, _, _, _⟩, ⟨_, _, _, _⟩, ⟨_, _, _, _⟩, ⟨_, _, _, _⟩, ⟨_, _, _, _⟩, ⟨_, _, _, _⟩, ⟨_, _, _, _⟩, ⟨_, _, _, _⟩, ⟨_, _, _, _⟩, ⟨_, _, _, _⟩, ⟨_, _, _, _⟩, ⟨_, _, _, _⟩]) rfl rfl ?_
        refine TrL.op (ok_assign rfl (fun _ => rfl)) rfl rfl ?_
        refine TrL.fin ?_
        refine End.blk ?_
        refine End.nxt ?_
        refine Tr.rg ?_
        refine TrL.op (ok_add rfl (fun _ => rfl) rfl (fun _ => rfl) (fun _ => by omega)) rfl rfl ?_
        refine TrL.op (ok_move rfl (fun _ => rfl)) rfl rfl ?_
        refine TrL.fin ?_
        exact End.lp (k + 1) (by first | rfl | omega | (simp; done) | (simp; omega) | assumption) (by omega) (Ent.mk (.o rfl (by rw [mapsTo_some hsm, List.length_append]) rfl <| .i rfl (by first | rfl | omega | (simp; done) | (simp; omega) | assumption) <| .k rfl rfl <| .k rfl rfl <| .k rfl rfl <| .nil) (.a (by rw [mapsTo_some hsm]) (by rw [mapsTo_some hsm, List.length_append]) <| .k rfl <| .k rfl <| .nil) rfl)
      · intro h6
        have hsm : homAt a b k = none := opt_none h6
        refine Tr.skip ?_
        refine End.blk ?_
        refine End.nxt ?_
        refine Tr.rg ?_
        refine TrL.op (ok_add rfl (fun _ => rfl) rfl (fun _ => rfl) (fun _ => by omega)) rfl rfl ?_
        refine TrL.op (ok_move rfl (fun _ => rfl)) rfl rfl ?_
        refine TrL.fin ?_
        exact End.lp (k + 1) (by first | rfl | omega | (simp; done) | (simp; omega) | assumption) (by omega) (Ent.mk (.o rfl (by rw [mapsTo_none hsm]) rfl <| .i rfl (by first | rfl | omega | (simp; done) | (simp; omega) | assumption) <| .k rfl rfl <| .k rfl rfl <| .k rfl rfl <| .nil) (.a (by rw [mapsTo_none hsm]) (by rw [mapsTo_none hsm]) <| .k rfl <| .k rfl <| .nil) rfl)
    · intro h3
      replace h3 := Int.not_lt.1 (of_decide_eq_false h3)
      refine Tr.exit ?_
      refine Exs.thn ?_
      refine Exs.thn ?_
      refine Exs.here ?_
      exact End.cut (k) (by omega) (Ent.mk (.o rfl (by first | rfl | omega | (simp; done) | (simp; omega) | assumption) rfl <| .i rfl (by first | rfl | omega | (simp; done) | (simp; omega) | assumption) <| .k rfl rfl <| .k rfl rfl <| .k rfl rfl <| .nil) (.a (by first | rfl | omega | (simp; done) | (simp; omega) | assumption) (by first | rfl | omega | (simp; done) | (simp; omega) | assumption) <| .k rfl <| .k rfl <| .nil) rfl)
  · rintro _ rfl
    refine End.norm (S' := [⟨5, true, _, _⟩, ⟨12, true, _, _⟩, ⟨2, true, _, _⟩, ⟨3, true, _, _⟩, ⟨11, true, _, _⟩]) (M' := [⟨5, _, _⟩, ⟨2, _, _⟩, ⟨3, _, _⟩]) rfl rfl ?_
    have hml := mapsTo_len (a := a) (b := b) (k := b.1.length)
    refine End.nxt ?_
    refine Tr.seq ?_
    refine Tr.rg ?_
    refine TrL.op (ok_move rfl (fun _ => rfl)) rfl rfl ?_
    refine TrL.op (ok_assign rfl (fun _ => rfl)) rfl rfl ?_
    refine TrL.fin ?_
    refine End.nxt ?_
    refine Tr.frz 5 [4] ⟨rfl, trivial⟩ (by simp only [lenMax]; omega) rfl ?_
    refine Tr.ret ?_
    exact Rts.res1 (fn := Try.f100) rfl (.r rfl (by first | rfl | omega | (simp; done) | (simp; omega) | assumption) <| .nil)

set_option maxRecDepth 100000 in
set_option maxHeartbeats 1000000 in
theorem ct_rMapTo (a b : Ori) (s : Int) (va : Valid a) (ca : Conn a) (vb : Valid b) (hs : Sq b.1.length s) : Ct Try.prog 101 [kRd eO a, kRd eO b, kI s] (kTup [kRd (eL eI) (mtF a b s a.1.length), kB (isMapB a b (mtF a b s a.1.length))]) := by
  have hv0 := va.pos
  have hv1 := va.len
  have hv2 := va.le
  have hw1 := vb.len
  have hs0 := hs.1
  have hs1 := hs.2
  refine Ct.mk Try.func101 rfl Try.ntmps101 rfl (fun w J => ?_)
  refine Tr.seq ?_
  refine Tr.rg ?_
  refine TrL.new (ok_box 3 rfl (fun _ => rfl) rfl) rfl rfl rfl rfl ?_
  refine TrL.new (ok_box 4 rfl (fun _ => rfl) rfl) rfl rfl rfl rfl ?_
  refine TrL.op (ok_assign rfl (fun _ => rfl)) rfl rfl ?_
  refine TrL.op (ok_assign rfl (fun _ => rfl)) rfl rfl ?_
  refine TrL.fin ?_
  refine End.nxt ?_
  refine Tr.seq ?_
  refine Tr.rg ?_
  refine TrL.op (ok_ldBS rfl (fun _ => rfl)) rfl rfl ?_
  refine TrL.op (ok_call (fun hp => ct_rSize _) (.s rfl (fun _ => rfl) rfl <| .nil)) rfl rfl ?_
  refine TrL.new (ok_makeN eI 14 rfl (fun _ => rfl) rfl (fun _ => rfl) rfl rfl rfl (fun _ => by omega)) rfl rfl rfl rfl ?_
  refine TrL.op (ok_assign rfl (fun _ => rfl)) rfl rfl ?_
  refine TrL.fin ?_
  refine End.nxt ?_
  refine Tr.seq ?_
  refine Tr.seq ?_
  refine Tr.rg ?_
  refine TrL.op (ok_assign rfl (fun _ => rfl)) rfl rfl ?_
  refine TrL.fin ?_
  refine End.nxt ?_
  refine Tr.for1 (σ := Nat) [⟨2, true, _, _⟩, ⟨3, true, _, _⟩, ⟨4, true, _, _⟩, ⟨8, true, _, _⟩] [⟨3, _, _⟩, ⟨4, _, _⟩] (fun k => [⟨9, true, [], kI (k : Int)⟩]) (fun k => [⟨14, [], cArr false 3 eI (fillTo 0 (fun _ => (-1 : Int)) a.1.length k) a.1.length⟩]) (fun k => k ≤ a.1.length) (fun k => k = a.1.length) (fun k => a.1.length - k) (0) (Nat.zero_le _) (Ent.mk (.i rfl (by first | rfl | omega | (simp; done) | (simp; omega) | assumption) <| .k rfl rfl <| .k rfl rfl <| .k rfl rfl <| .k rfl rfl <| .nil) (.a fillTo_zero (by first | rfl | omega | (simp; done) | (simp; omega) | assumption) <| .k rfl <| .k rfl <| .nil) rfl) ?_ ?_
  · intro k hR0
    refine Tr.norm (S' := [⟨9, true, _, _⟩, ⟨2, true, _, _⟩, ⟨3, true, _, _⟩, ⟨4, true, _, _⟩, ⟨8, true, _, _⟩]) (M' := [⟨14, _, _⟩, ⟨3, _, _⟩, ⟨4, _, _⟩]) rfl rfl ?_
    refine Tr.seq ?_
    refine Tr.seq ?_
    refine Tr.rg ?_
    refine TrL.op (ok_move rfl (fun _ => rfl)) rfl rfl ?_
    refine TrL.op (ok_ldBS rfl (fun _ => rfl)) rfl rfl ?_
    refine TrL.op (ok_call (fun hp => ct_rSize _) (.s rfl (fun _ => rfl) rfl <| .nil)) rfl rfl ?_
    refine TrL.op (ok_lss rfl (fun _ => rfl) rfl (fun _ => rfl)) rfl rfl ?_
    refine TrL.fin ?_
    refine End.nxt ?_
    refine Tr.cnd rfl ?_ ?_
    · intro h3
      replace h3 := of_decide_eq_true h3
      refine Tr.skip ?_
      refine End.nxt ?_
      refine Tr.seq ?_
      refine Tr.blk ?_
      refine Tr.rg ?_
      refine TrL.op (ok_move rfl (fun _ => rfl)) rfl rfl ?_
      refine TrL.op (ok_move rfl (fun _ => rfl)) rfl rfl ?_
      first | refine TrL.op (ok_idxEN rfl (fun _ => rfl) rfl (fun _ => rfl) (fun _ => by omega)) rfl rfl ?_ | refine TrL.op (ok_idxE rfl (fun _ => rfl) rfl (fun _ => rfl) (fun _ => by omega)) rfl rfl ?_
      refine TrL.stE rfl rfl rfl rfl rfl ?_
      refine TrL.fin ?_
      refine End.blk ?_
      refine End.nxt ?_
      refine Tr.rg ?_
      refine TrL.op (ok_move rfl (fun _ => rfl)) rfl rfl ?_
      refine TrL.op (ok_add rfl (fun _ => rfl) rfl (fun _ => rfl) (fun _ => by omega)) rfl rfl ?_
      refine TrL.op (ok_assign rfl (fun _ => rfl)) rfl rfl ?_
      refine TrL.fin ?_
      exact End.lp (k + 1) (by first | rfl | omega | (simp; done) | (simp; omega) | assumption) (by omega) (Ent.mk (.i rfl (by first | rfl | omega | (simp; done) | (simp; omega) | assumption) <| .k rfl rfl <| .k rfl rfl <| .k rfl rfl <| .k rfl rfl <| .nil) (.a (by rw [← fillTo_succ]) (by first | rfl | omega | (simp; done) | (simp; omega) | assumption) <| .k rfl <| .k rfl <| .nil) rfl)
    · intro h3
      replace h3 := Int.not_lt.1 (of_decide_eq_false h3)
      refine Tr.exit ?_
      refine Exs.thn ?_
      refine Exs.thn ?_
      refine Exs.here ?_
      exact End.cut (k) (by omega) (Ent.mk (.i rfl (by first | rfl | omega | (simp; done) | (simp; omega) | assumption) <| .k rfl rfl <| .k rfl rfl <| .k rfl rfl <| .k rfl rfl <| .nil) (.a (by first | rfl | omega | (simp; done) | (simp; omega) | assumption) (by first | rfl | omega | (simp; done) | (simp; omega) | assumption) <| .k rfl <| .k rfl <| .nil) rfl)
  · rintro _ rfl
    refine End.norm (S' := [⟨9, true, _, _⟩, ⟨2, true, _, _⟩, ⟨3, true, _, _⟩, ⟨4, true, _, _⟩, ⟨8, true, _, _⟩]) (M' := [⟨14, _, _⟩, ⟨3, _, _⟩, ⟨4, _, _⟩]) rfl rfl ?_
    refine End.nxt ?_
    refine Tr.seq ?_
    refine Tr.rg ?_
    refine TrL.op (ok_move rfl (fun _ => rfl)) rfl rfl ?_
    refine TrL.op (ok_move rfl (fun _ => rfl)) rfl rfl ?_
    first | refine TrL.op (ok_idxEN rfl (fun _ => rfl) rfl (fun _ => rfl) (fun _ => by omega)) rfl rfl ?_ | refine TrL.op (ok_idxE rfl (fun _ => rfl) rfl (fun _ => rfl) (fun _ => by omega)) rfl rfl ?_
    refine TrL.stE rfl rfl rfl rfl rfl ?_
    refine TrL.fin ?_
    refine End.nxt ?_
    refine Tr.seq ?_
    refine Tr.seq ?_
    refine Tr.rg ?_
    refine TrL.op (ok_assign rfl (fun _ => rfl)) rfl rfl ?_
    refine TrL.fin ?_
    refine End.nxt ?_
    refine Tr.for1 (σ := Nat) [⟨3, true, _, _⟩, ⟨4, true, _, _⟩, ⟨8, true, _, _⟩] [⟨3, _, _⟩, ⟨4, _, _⟩] (fun r => [⟨10, true, [], kI (r : Int)⟩]) (fun r => [⟨14, [], cArr false 3 eI (mtF a b s r) a.1.length⟩]) (fun r => r ≤ a.1.length) (fun r => r = a.1.length) (fun r => a.1.length - r) (0) (Nat.zero_le _) (Ent.mk (.i rfl (by first | rfl | omega | (simp; done) | (simp; omega) | assumption) <| .k rfl rfl <| .k rfl rfl <| .k rfl rfl <| .nil) (.a (by rw [mt_fill]; rfl) (by first | rfl | omega | (simp; done) | (simp; omega) | assumption) <| .k rfl <| .k rfl <| .nil) rfl) ?_ ?_
    · intro r hR1
      refine Tr.norm (S' := [⟨10, true, _, _⟩, ⟨3, true, _, _⟩, ⟨4, true, _, _⟩, ⟨8, true, _, _⟩]) (M' := [⟨14, _, _⟩, ⟨3, _, _⟩, ⟨4, _, _⟩]) rfl rfl ?_
      have hmr := MtSt.all va vb hs (r := r)
      refine Tr.seq ?_
      refine Tr.seq ?_
      refine Tr.rg ?_
      refine TrL.op (ok_move rfl (fun _ => rfl)) rfl rfl ?_
      refine TrL.op (ok_ldBS rfl (fun _ => rfl)) rfl rfl ?_
      refine TrL.op (ok_call (fun hp => ct_rSize _) (.s rfl (fun _ => rfl) rfl <| .nil)) rfl rfl ?_
      refine TrL.op (ok_lss rfl (fun _ => rfl) rfl (fun _ => rfl)) rfl rfl ?_
      refine TrL.fin ?_
      refine End.nxt ?_
      refine Tr.cnd rfl ?_ ?_
      · intro h8
        replace h8 := of_decide_eq_true h8
        refine Tr.skip ?_
        refine End.nxt ?_
        refine Tr.seq ?_
        refine Tr.blk ?_
        refine Tr.seq ?_
        refine Tr.rg ?_
        refine TrL.op (ok_assign rfl (fun _ => rfl)) rfl rfl ?_
        refine TrL.fin ?_
        refine End.nxt ?_
        refine Tr.for1 (σ := Nat) [⟨3, true, _, _⟩, ⟨4, true, _, _⟩, ⟨8, true, _, _⟩, ⟨10, true, _, _⟩] [⟨3, _, _⟩, ⟨4, _, _⟩] (fun x => [⟨11, true, [], kI (x : Int)⟩]) (fun x => [⟨14, [], cArr false 3 eI (mtTo a b (mtF a b s r) x) a.1.length⟩]) (fun x => x ≤ a.1.length) (fun x => x = a.1.length) (fun x => a.1.length - x) (0) (Nat.zero_le _) (Ent.mk (.i rfl (by first | rfl | omega | (simp; done) | (simp; omega) | assumption) <| .k rfl rfl <| .k rfl rfl <| .k rfl rfl <| .k rfl rfl <| .nil) (.a (by rfl) (by first | rfl | omega | (simp; done) | (simp; omega) | assumption) <| .k rfl <| .k rfl <| .nil) rfl) ?_ ?_
        · intro x hR2
          refine Tr.norm (S' := [⟨11, true, _, _⟩, ⟨3, true, _, _⟩, ⟨4, true, _, _⟩, ⟨8, true, _, _⟩, ⟨10, true, _, _⟩]) (M' := [⟨14, _, _⟩, ⟨3, _, _⟩, ⟨4, _, _⟩]) rfl rfl ?_
          have hmx := fun h => hmr.to va vb (x := x) h
          have hml := fun h => (hmx h).len
          refine Tr.seq ?_
          refine Tr.seq ?_
          refine Tr.rg ?_
          refine TrL.op (ok_move rfl (fun _ => rfl)) rfl rfl ?_
          refine TrL.op (ok_ldBS rfl (fun _ => rfl)) rfl rfl ?_
          refine TrL.op (ok_call (fun hp => ct_rSize _) (.s rfl (fun _ => rfl) rfl <| .nil)) rfl rfl ?_
          refine TrL.op (ok_lss rfl (fun _ => rfl) rfl (fun _ => rfl)) rfl rfl ?_
          refine TrL.fin ?_
          refine End.nxt ?_
          refine Tr.cnd rfl ?_ ?_
          · intro h11
            replace h11 := of_decide_eq_true h11
            have hml2 := hml (by omega)
            have a1 := va.ri (i := x) (by omega)
            have a2 := va.ui (i := x) (by omega)
            refine Tr.skip ?_
            refine End.nxt ?_
            refine Tr.seq ?_
            refine Tr.blk ?_
            refine Tr.seq ?_
            refine Tr.rg ?_
            refine TrL.op (ok_move rfl (fun _ => rfl)) rfl rfl ?_
            refine TrL.op (ok_move rfl (fun _ => rfl)) rfl rfl ?_
            first | refine TrL.op (ok_idxEN rfl (fun _ => rfl) rfl (fun _ => rfl) (fun _ => by omega)) rfl rfl ?_ | refine TrL.op (ok_idxE rfl (fun _ => rfl) rfl (fun _ => rfl) (fun _ => by omega)) rfl rfl ?_
            refine TrL.op (ok_ldE rfl (fun _ => rfl) rfl rfl rfl) rfl rfl ?_
            refine TrL.op (ok_geq rfl (fun _ => rfl) rfl (fun _ => rfl)) rfl rfl ?_
            refine TrL.fin ?_
            refine End.nxt ?_
            refine Tr.cnd rfl ?_ ?_
            · intro h13
              replace h13 := of_decide_eq_true h13
              have hq : Sq b.1.length (nth (mtTo a b (mtF a b s r) x) x) := (by rcases (hmx (by omega)).rng x (Sq.nat (by omega)) with e | e; simp only [ap, Int.toNat_natCast] at e; omega; simpa [ap] using e)
              have hq0 := hq.1
              have hq1 := hq.2
              refine Tr.drawS 29 14 mixed (by kernel_rfl) ?_
              refine RunS.opA (ok_move rfl (fun _ => rfl)) (by kernel_rfl) rfl rfl ?_
              refine RunS.opA (ok_fldO rfl (fun _ => rfl)) (by kernel_rfl) rfl rfl ?_
              refine RunS.opA (ok_ldB rfl (fun _ => rfl) rfl) (by kernel_rfl) rfl rfl ?_
              refine RunS.opA (ok_move rfl (fun _ => rfl)) (by kernel_rfl) rfl rfl ?_
              first | refine RunS.opA (ok_idxN rfl (fun _ => rfl) rfl (fun _ => rfl) rfl (fun _ => by omega)) (by kernel_rfl) rfl rfl ?_ | refine RunS.opA (ok_idxP rfl (fun _ => rfl) rfl (fun _ => rfl) rfl (fun _ => by omega)) (by kernel_rfl) rfl rfl ?_
              refine RunS.opA (ok_ldP rfl (fun _ => rfl) rfl) (by kernel_rfl) rfl rfl ?_
              refine RunS.op (ok_move rfl (fun _ => rfl)) rfl rfl ?_
              refine RunS.opA (ok_fldO rfl (fun _ => rfl)) (by kernel_rfl) rfl rfl ?_
              refine RunS.opA (ok_ldB rfl (fun _ => rfl) rfl) (by kernel_rfl) rfl rfl ?_
              refine RunS.opA (ok_move rfl (fun _ => rfl)) (by kernel_rfl) rfl rfl ?_
              first | refine RunS.opA (ok_idxN rfl (fun _ => rfl) rfl (fun _ => rfl) rfl (fun _ => by omega)) (by kernel_rfl) rfl rfl ?_ | refine RunS.opA (ok_idxP rfl (fun _ => rfl) rfl (fun _ => rfl) rfl (fun _ => by omega)) (by kernel_rfl) rfl rfl ?_
              refine RunS.opA (ok_ldP rfl (fun _ => rfl) rfl) (by kernel_rfl) rfl rfl ?_
              refine RunS.opA (ok_fldO rfl (fun _ => rfl)) (by kernel_rfl) rfl rfl ?_
              refine RunS.opA (ok_ldB rfl (fun _ => rfl) rfl) (by kernel_rfl) rfl rfl ?_
              refine RunS.opA (ok_move rfl (fun _ => rfl)) (by kernel_rfl) rfl rfl ?_
              refine RunS.opA (ok_move rfl (fun _ => rfl)) (by kernel_rfl) rfl rfl ?_
              first | refine RunS.opA (ok_idxEN rfl (fun _ => rfl) rfl (fun _ => rfl) (fun _ => by omega)) (by kernel_rfl) rfl rfl ?_ | refine RunS.opA (ok_idxE rfl (fun _ => rfl) rfl (fun _ => rfl) (fun _ => by omega)) (by kernel_rfl) rfl rfl ?_
              refine RunS.opA (ok_ldE rfl (fun _ => rfl) rfl rfl rfl) (by kernel_rfl) rfl rfl ?_
              first | refine RunS.opA (ok_idxN rfl (fun _ => rfl) rfl (fun _ => rfl) rfl (fun _ => by omega)) (by kernel_rfl) rfl rfl ?_ | refine RunS.opA (ok_idxP rfl (fun _ => rfl) rfl (fun _ => rfl) rfl (fun _ => by omega)) (by kernel_rfl) rfl rfl ?_
              refine RunS.opA (ok_ldP rfl (fun _ => rfl) rfl) (by kernel_rfl) rfl rfl ?_
              refine RunS.opA (ok_fldO rfl (fun _ => rfl)) (by kernel_rfl) rfl rfl ?_
              refine RunS.opA (ok_ldB rfl (fun _ => rfl) rfl) (by kernel_rfl) rfl rfl ?_
              refine RunS.opA (ok_move rfl (fun _ => rfl)) (by kernel_rfl) rfl rfl ?_
              refine RunS.opA (ok_move rfl (fun _ => rfl)) (by kernel_rfl) rfl rfl ?_
              first | refine RunS.opA (ok_idxEN rfl (fun _ => rfl) rfl (fun _ => rfl) (fun _ => by omega)) (by kernel_rfl) rfl rfl ?_ | refine RunS.opA (ok_idxE rfl (fun _ => rfl) rfl (fun _ => rfl) (fun _ => by omega)) (by kernel_rfl) rfl rfl ?_
              refine RunS.opA (ok_ldE rfl (fun _ => rfl) rfl rfl rfl) (by kernel_rfl) rfl rfl ?_
              first | refine RunS.opA (ok_idxN rfl (fun _ => rfl) rfl (fun _ => rfl) rfl (fun _ => by omega)) (by kernel_rfl) rfl rfl ?_ | refine RunS.opA (ok_idxP rfl (fun _ => rfl) rfl (fun _ => rfl) rfl (fun _ => by omega)) (by kernel_rfl) rfl rfl ?_
              refine RunS.opA (ok_ldP rfl (fun _ => rfl) rfl) (by kernel_rfl) rfl rfl ?_
              first | refine RunS.opA (ok_idxEN rfl (fun _ => rfl) rfl (fun _ => rfl) (fun _ => by omega)) (by kernel_rfl) rfl rfl ?_ | refine RunS.opA (ok_idxE rfl (fun _ => rfl) rfl (fun _ => rfl) (fun _ => by omega)) (by kernel_rfl) rfl rfl ?_
              refine RunS.z (st_E rfl rfl rfl rfl rfl) rfl rfl rfl ?_
              first | refine TrL.op (ok_idxEN rfl (fun _ => rfl) rfl (fun _ => rfl) (fun _ => by omega)) rfl rfl ?_ | refine TrL.op (ok_idxE rfl (fun _ => rfl) rfl (fun _ => rfl) (fun _ => by omega)) rfl rfl ?_
              refine TrL.stE rfl rfl rfl rfl rfl ?_
              refine TrL.fin ?_
              refine End.blk ?_
              refine End.nxt ?_
              refine Tr.rg ?_
              refine TrL.op (ok_move rfl (fun _ => rfl)) rfl rfl ?_
              refine TrL.op (ok_add rfl (fun _ => rfl) rfl (fun _ => rfl) (fun _ => by omega)) rfl rfl ?_
              refine TrL.op (ok_assign rfl (fun _ => rfl)) rfl rfl ?_
              refine TrL.fin ?_
              exact End.lp (x + 1) (by first | rfl | omega | (simp; done) | (simp; omega) | assumption) (by omega) (Ent.mk (.i rfl (by first | rfl | omega | (simp; done) | (simp; omega) | assumption) <| .k rfl rfl <| .k rfl rfl <| .k rfl rfl <| .k rfl rfl <| .nil) (.a (by rw [mtTo, mtStep, if_pos h13]; rfl) (by first | rfl | omega | (simp; done) | (simp; omega) | assumption) <| .k rfl <| .k rfl <| .nil) rfl)
            · intro h13
              replace h13 := Int.not_le.1 (of_decide_eq_false h13)
              refine Tr.skip ?_
              refine End.blk ?_
              refine End.nxt ?_
              refine Tr.rg ?_
              refine TrL.op (ok_move rfl (fun _ => rfl)) rfl rfl ?_
              refine TrL.op (ok_add rfl (fun _ => rfl) rfl (fun _ => rfl) (fun _ => by omega)) rfl rfl ?_
              refine TrL.op (ok_assign rfl (fun _ => rfl)) rfl rfl ?_
              refine TrL.fin ?_
              exact End.lp (x + 1) (by first | rfl | omega | (simp; done) | (simp; omega) | assumption) (by omega) (Ent.mk (.i rfl (by first | rfl | omega | (simp; done) | (simp; omega) | assumption) <| .k rfl rfl <| .k rfl rfl <| .k rfl rfl <| .k rfl rfl <| .nil) (.a (by rw [mtTo, mtStep, if_neg (by omega)]) (by first | rfl | omega | (simp; done) | (simp; omega) | assumption) <| .k rfl <| .k rfl <| .nil) rfl)
          · intro h11
            replace h11 := Int.not_lt.1 (of_decide_eq_false h11)
            refine Tr.exit ?_
            refine Exs.thn ?_
            refine Exs.thn ?_
            refine Exs.here ?_
            exact End.cut (x) (by omega) (Ent.mk (.i rfl (by first | rfl | omega | (simp; done) | (simp; omega) | assumption) <| .k rfl rfl <| .k rfl rfl <| .k rfl rfl <| .k rfl rfl <| .nil) (.a (by first | rfl | omega | (simp; done) | (simp; omega) | assumption) (by first | rfl | omega | (simp; done) | (simp; omega) | assumption) <| .k rfl <| .k rfl <| .nil) rfl)
        · rintro _ rfl
          refine End.norm (S' := [⟨11, true, _, _⟩, ⟨3, true, _, _⟩, ⟨4, true, _, _⟩, ⟨8, true, _, _⟩, ⟨10, true, _, _⟩]) (M' := [⟨14, _, _⟩, ⟨3, _, _⟩, ⟨4, _, _⟩]) rfl rfl ?_
          refine End.blk ?_
          refine End.nxt ?_
          refine Tr.rg ?_
          refine TrL.op (ok_move rfl (fun _ => rfl)) rfl rfl ?_
          refine TrL.op (ok_add rfl (fun _ => rfl) rfl (fun _ => rfl) (fun _ => by omega)) rfl rfl ?_
          refine TrL.op (ok_assign rfl (fun _ => rfl)) rfl rfl ?_
          refine TrL.fin ?_
          exact End.lp (r + 1) (by first | rfl | omega | (simp; done) | (simp; omega) | assumption) (by omega) (Ent.mk (.i rfl (by first | rfl | omega | (simp; done) | (simp; omega) | assumption) <| .k rfl rfl <| .k rfl rfl <| .k rfl rfl <| .nil) (.a (by rfl) (by first | rfl | omega | (simp; done) | (simp; omega) | assumption) <| .k rfl <| .k rfl <| .nil) rfl)
      · intro h8
        replace h8 := Int.not_lt.1 (of_decide_eq_false h8)
        refine Tr.exit ?_
        refine Exs.thn ?_
        refine Exs.thn ?_
        refine Exs.here ?_
        exact End.cut (r) (by omega) (Ent.mk (.i rfl (by first | rfl | omega | (simp; done) | (simp; omega) | assumption) <| .k rfl rfl <| .k rfl rfl <| .k rfl rfl <| .nil) (.a (by first | rfl | omega | (simp; done) | (simp; omega) | assumption) (by first | rfl | omega | (simp; done) | (simp; omega) | assumption) <| .k rfl <| .k rfl <| .nil) rfl)
    · rintro _ rfl
      refine End.norm (S' := [⟨10, true, _, _⟩, ⟨3, true, _, _⟩, ⟨4, true, _, _⟩, ⟨8, true, _, _⟩]) (M' := [⟨14, _, _⟩, ⟨3, _, _⟩, ⟨4, _, _⟩]) rfl rfl ?_
      have hmr := MtSt.all va vb hs (r := a.1.length)
      have hsp := mtF_spec va ca vb hs
      refine End.nxt ?_
      refine Tr.seq ?_
      refine Tr.rg ?_
      refine TrL.op (ok_move rfl (fun _ => rfl)) rfl rfl ?_
      refine TrL.op (ok_ldBS rfl (fun _ => rfl)) rfl rfl ?_
      refine TrL.op (ok_ldBS rfl (fun _ => rfl)) rfl rfl ?_
      refine TrL.op (ok_move rfl (fun _ => rfl)) rfl rfl ?_
      refine TrL.frz 14 [8, 74, 77] ⟨rfl, rfl, rfl, trivial⟩ (by simp only [lenMax]; omega) rfl ?_
      refine TrL.norm (S' := [⟨_, _, _, _⟩, ⟨_, _, _, _⟩, ⟨_, _, _, _⟩, ⟨_, _, _, _⟩, ⟨_, _, _, _⟩, ⟨_, _, _, _⟩, ⟨_, _, _, _⟩, ⟨_, _, _, _⟩, ⟨_, _, _, _⟩, ⟨_, _, _, _⟩, ⟨_, _, _, _⟩]) rfl rfl ?_
      refine TrL.op (ok_call (fun hp => ct_rIsMap _ _ _ va vb hmr.len hsp.1) (.s rfl (fun _ => rfl) rfl <| .s rfl (fun _ => rfl) rfl <| .a rfl (fun _ => rfl) <| .nil)) rfl rfl ?_
      refine TrL.op (ok_assign rfl (fun _ => rfl)) rfl rfl ?_
      refine TrL.op (ok_assign rfl (fun _ => rfl)) rfl rfl ?_
      refine TrL.fin ?_
      refine End.nxt ?_
      refine Tr.ret ?_
      exact Rts.res (fn := Try.f101) (ts := [6, 7]) rfl rfl (.r rfl (by first | rfl | omega | (simp; done) | (simp; omega) | assumption) <| .b rfl (by first | rfl | omega | (simp; done) | (simp; omega) | assumption) <| .nil)

set_option maxRecDepth 100000 in
theorem ct_rMaps (a b : Ori) (va : Valid a) (ca : Conn a) (vb : Valid b) : Ct Try.prog 55 [kRd eO a, kRd eO b] (kRd (eL (eL eI)) (mapsL a b)) := by
  have hv2 := vb.le
  refine Ct.mk Try.func55 rfl Try.ntmps55 rfl (fun w J => ?_)
  refine Tr.seq ?_
  refine Tr.rg ?_
  refine TrL.new (ok_box 2 rfl (fun _ => rfl) rfl) rfl rfl rfl rfl ?_
  refine TrL.new (ok_box 3 rfl (fun _ => rfl) rfl) rfl rfl rfl rfl ?_
  refine TrL.op (ok_assign rfl (fun _ => rfl)) rfl rfl ?_
  refine TrL.fin ?_
  refine End.nxt ?_
  refine Tr.seq ?_
  refine Tr.rg ?_
  refine TrL.op (ok_assign rfl (fun _ => rfl)) rfl rfl ?_
  refine TrL.fin ?_
  refine End.nxt ?_
  refine Tr.seq ?_
  refine Tr.seq ?_
  refine Tr.rg ?_
  refine TrL.op (ok_assign rfl (fun _ => rfl)) rfl rfl ?_
  refine TrL.fin ?_
  refine End.nxt ?_
  refine Tr.grow (s := 5) rfl rfl 5 rfl 22 (eL eI) rfl ?_
  refine Tr.for1 (σ := Nat) [⟨2, true, _, _⟩, ⟨3, true, _, _⟩] [⟨2, _, _⟩, ⟨3, _, _⟩] (fun k => [⟨5, true, [5], kOsl 5 (mapsTo a b k).length⟩, ⟨6, true, [], kI (k : Int)⟩]) (fun k => [⟨5, [], cArr true 22 (eL eI) (mapsTo a b k) (mapsTo a b k).length⟩]) (fun k => k ≤ b.1.length) (fun k => k = b.1.length) (fun k => b.1.length - k) (0) (Nat.zero_le _) (Ent.mk (.o rfl (by first | rfl | omega | (simp; done) | (simp; omega) | assumption) rfl <| .i rfl (by first | rfl | omega | (simp; done) | (simp; omega) | assumption) <| .k rfl rfl <| .k rfl rfl <| .nil) (.a (by rfl) (by first | rfl | omega | (simp; done) | (simp; omega) | assumption) <| .k rfl <| .k rfl <| .nil) rfl) ?_ ?_
  · intro k hR0
    refine Tr.norm (S' := [⟨5, true, _, _⟩, ⟨6, true, _, _⟩, ⟨2, true, _, _⟩, ⟨3, true, _, _⟩]) (M' := [⟨5, _, _⟩, ⟨2, _, _⟩, ⟨3, _, _⟩]) rfl rfl ?_
    have hml := mapsTo_len (a := a) (b := b) (k := k)
    refine Tr.seq ?_
    refine Tr.seq ?_
    refine Tr.rg ?_
    refine TrL.op (ok_move rfl (fun _ => rfl)) rfl rfl ?_
    refine TrL.op (ok_ldBS rfl (fun _ => rfl)) rfl rfl ?_
    refine TrL.op (ok_call (fun hp => ct_rSize _) (.s rfl (fun _ => rfl) rfl <| .nil)) rfl rfl ?_
    refine TrL.op (ok_lss rfl (fun _ => rfl) rfl (fun _ => rfl)) rfl rfl ?_
    refine TrL.fin ?_
    refine End.nxt ?_
    refine Tr.cnd rfl ?_ ?_
    · intro h3
      replace h3 := of_decide_eq_true h3
      have hks : Sq b.1.length (k : Int) := Sq.nat (by omega)
      have hsp := (mtF_spec va ca vb hks).2
      refine Tr.skip ?_
      refine End.nxt ?_
      refine Tr.seq ?_
      refine Tr.blk ?_
      refine Tr.seq ?_
      refine Tr.rg ?_
      refine TrL.op (ok_ldBS rfl (fun _ => rfl)) rfl rfl ?_
      refine TrL.op (ok_ldBS rfl (fun _ => rfl)) rfl rfl ?_
      refine TrL.op (ok_move rfl (fun _ => rfl)) rfl rfl ?_
      refine TrL.op (ok_call (fun hp => ct_rMapTo _ _ _ va ca vb hks) (.s rfl (fun _ => rfl) rfl <| .s rfl (fun _ => rfl) rfl <| .a rfl (fun _ => rfl) <| .nil)) rfl rfl ?_
      refine TrL.op (ok_move rfl (fun _ => rfl)) rfl rfl ?_
      refine TrL.op (ok_ext rfl (fun _ => rfl) rfl) rfl rfl ?_
      refine TrL.op (ok_ext rfl (fun _ => rfl) rfl) rfl rfl ?_
      refine TrL.op (ok_assign rfl (fun _ => rfl)) rfl rfl ?_
      refine TrL.op (ok_assign rfl (fun _ => rfl)) rfl rfl ?_
      refine TrL.fin ?_
      refine End.nxt ?_
      refine Tr.seq ?_
      refine Tr.rg ?_
      refine TrL.op (ok_move rfl (fun _ => rfl)) rfl rfl ?_
      refine TrL.fin ?_
      refine End.nxt ?_
      refine Tr.cnd rfl ?_ ?_
      · intro h6
        have hsm := hsp.trans (if_pos h6)
        refine Tr.rg ?_
        refine TrL.op (ok_move rfl (fun _ => rfl)) rfl rfl ?_
        refine TrL.op (ok_move rfl (fun _ => rfl)) rfl rfl ?_
        refine TrL.new (ok_bsl (eL eI) 25 (fun hp => .cons rfl <| .nil) rfl rfl rfl rfl) rfl rfl rfl rfl ?_
        refine TrL.app rfl rfl rfl rfl rfl rfl rfl rfl (by first | omega | (simp only [List.length_cons, List.length_nil]; omega)) (by first | omega | (simp only [List.length_cons, List.length_nil]; omega)) ?_
        refine TrL.norm (S' := [⟨_, _, _, _⟩, ⟨_, _, _, _⟩, ⟨_, _, _, _⟩, ⟨_, _, _, _⟩, ⟨_, _, _, _⟩, ⟨_, _, _, _⟩, ⟨_, _, _, _⟩, ⟨_, _, _, _⟩, ⟨_, _, _, _⟩, ⟨_, _, _, _⟩, ⟨_, _, _, _⟩, ⟨_, _, _, _⟩, ⟨_, _, _, _⟩, ⟨_, _, _, _⟩, ⟨_, _, _, _⟩, ⟨_, _, _, _⟩, ⟨_, _, _, _⟩, ⟨_, _, _, _⟩, ⟨_, _, _, _⟩, ⟨_, _, _, _⟩, ⟨_, _, _, _⟩, ⟨_, _, _, _⟩]) rfl rfl ?_
        refine TrL.op (ok_assign rfl (fun _ => rfl)) rfl rfl ?_
        refine TrL.fin ?_
        refine End.blk ?_
        refine End.nxt ?_
        refine Tr.rg ?_
        refine TrL.op (ok_move rfl (fun _ => rfl)) rfl rfl ?_
        refine TrL.op (ok_add rfl (fun _ => rfl) rfl (fun _ => rfl) (fun _ => by omega)) rfl rfl ?_
        refine TrL.op (ok_assign rfl (fun _ => rfl)) rfl rfl ?_
        refine TrL.fin ?_
        exact End.lp (k + 1) (by first | rfl | omega | (simp; done) | (simp; omega) | assumption) (by omega) (Ent.mk (.o rfl (by rw [mapsTo_some hsm, List.length_append]) rfl <| .i rfl (by first | rfl | omega | (simp; done) | (simp; omega) | assumption) <| .k rfl rfl <| .k rfl rfl <| .nil) (.a (by rw [mapsTo_some hsm]) (by rw [mapsTo_some hsm, List.length_append]) <| .k rfl <| .k rfl <| .nil) rfl)
      · intro h6
        have hsm := hsp.trans (if_neg (by rw [h6]; simp))
        refine Tr.skip ?_
        refine End.blk ?_
        refine End.nxt ?_
        refine Tr.rg ?_
        refine TrL.op (ok_move rfl (fun _ => rfl)) rfl rfl ?_
        refine TrL.op (ok_add rfl (fun _ => rfl) rfl (fun _ => rfl) (fun _ => by omega)) rfl rfl ?_
        refine TrL.op (ok_assign rfl (fun _ => rfl)) rfl rfl ?_
        refine TrL.fin ?_
        exact End.lp (k + 1) (by first | rfl | omega | (simp; done) | (simp; omega) | assumption) (by omega) (Ent.mk (.o rfl (by rw [mapsTo_none hsm]) rfl <| .i rfl (by first | rfl | omega | (simp; done) | (simp; omega) | assumption) <| .k rfl rfl <| .k rfl rfl <| .nil) (.a (by rw [mapsTo_none hsm]) (by rw [mapsTo_none hsm]) <| .k rfl <| .k rfl <| .nil) rfl)
    · intro h3
      replace h3 := Int.not_lt.1 (of_decide_eq_false h3)
      refine Tr.exit ?_
      refine Exs.thn ?_
      refine Exs.thn ?_
      refine Exs.here ?_
      exact End.cut (k) (by omega) (Ent.mk (.o rfl (by first | rfl | omega | (simp; done) | (simp; omega) | assumption) rfl <| .i rfl (by first | rfl | omega | (simp; done) | (simp; omega) | assumption) <| .k rfl rfl <| .k rfl rfl <| .nil) (.a (by first | rfl | omega | (simp; done) | (simp; omega) | assumption) (by first | rfl | omega | (simp; done) | (simp; omega) | assumption) <| .k rfl <| .k rfl <| .nil) rfl)
  · rintro _ rfl
    refine End.norm (S' := [⟨5, true, _, _⟩, ⟨6, true, _, _⟩, ⟨2, true, _, _⟩, ⟨3, true, _, _⟩]) (M' := [⟨5, _, _⟩, ⟨2, _, _⟩, ⟨3, _, _⟩]) rfl rfl ?_
    have hml := mapsTo_len (a := a) (b := b) (k := b.1.length)
    refine End.nxt ?_
    refine Tr.seq ?_
    refine Tr.rg ?_
    refine TrL.op (ok_move rfl (fun _ => rfl)) rfl rfl ?_
    refine TrL.op (ok_assign rfl (fun _ => rfl)) rfl rfl ?_
    refine TrL.fin ?_
    refine End.nxt ?_
    refine Tr.frz 5 [4] ⟨rfl, trivial⟩ (by simp only [lenMax]; omega) rfl ?_
    refine Tr.ret ?_
    exact Rts.res1 (fn := Try.f55) rfl (.r rfl (by first | rfl | omega | (simp; done) | (simp; omega) | assumption) <| .nil)

set_option maxRecDepth 100000 in
theorem ct_ofirst (l : List (List Int)) : Ct Try.prog 99 [kRd (eL (eL eI)) l] (kTup [kRd (eL eI) (if l.length = 0 then [] else nth l 0), kI (if l.length = 0 then 11 else 0)]) := by
  refine Ct.mk Try.func99 rfl Try.ntmps99 rfl (fun w J => ?_)
  refine Tr.seq ?_
  refine Tr.rg ?_
  refine TrL.op (ok_assign rfl (fun _ => rfl)) rfl rfl ?_
  refine TrL.op (ok_assign rfl (fun _ => rfl)) rfl rfl ?_
  refine TrL.fin ?_
  refine End.nxt ?_
  refine Tr.seq ?_
  refine Tr.seq ?_
  refine Tr.rg ?_
  refine TrL.op (ok_move rfl (fun _ => rfl)) rfl rfl ?_
  refine TrL.op (ok_lenJ rfl (fun _ => rfl)) rfl rfl ?_
  refine TrL.op (ok_eql rfl (fun _ => rfl) rfl (fun _ => rfl)) rfl rfl ?_
  refine TrL.fin ?_
  refine End.nxt ?_
  refine Tr.cnd rfl ?_ ?_
  · intro h1
    replace h1 := of_decide_eq_true h1
    refine Tr.seq ?_
    refine Tr.rg ?_
    refine TrL.op (ok_assign rfl (fun _ => rfl)) rfl rfl ?_
    refine TrL.op (ok_assign rfl (fun _ => rfl)) rfl rfl ?_
    refine TrL.fin ?_
    refine End.nxt ?_
    refine Tr.ret ?_
    refine Rts.thn ?_
    exact Rts.res (fn := Try.f99) (ts := [2, 3]) rfl rfl (.n rfl (by rw [if_pos (by omega)]) <| .i rfl (by rw [if_pos (by omega)]) <| .nil)
  · intro h1
    replace h1 := of_decide_eq_false h1
    refine Tr.skip ?_
    refine End.nxt ?_
    refine Tr.seq ?_
    refine Tr.rg ?_
    refine TrL.op (ok_move rfl (fun _ => rfl)) rfl rfl ?_
    first | refine TrL.op (ok_idxN rfl (fun _ => rfl) rfl (fun _ => rfl) rfl (fun _ => by omega)) rfl rfl ?_ | refine TrL.op (ok_idxP rfl (fun _ => rfl) rfl (fun _ => rfl) rfl (fun _ => by omega)) rfl rfl ?_
    refine TrL.op (ok_ldP rfl (fun _ => rfl) rfl) rfl rfl ?_
    refine TrL.op (ok_assign rfl (fun _ => rfl)) rfl rfl ?_
    refine TrL.op (ok_assign rfl (fun _ => rfl)) rfl rfl ?_
    refine TrL.fin ?_
    refine End.nxt ?_
    refine Tr.ret ?_
    exact Rts.res (fn := Try.f99) (ts := [2, 3]) rfl rfl (.r rfl (by rw [if_neg (by omega)]; rfl) <| .i rfl (by rw [if_neg (by omega)]) <| .nil)

set_option maxRecDepth 100000 in
theorem ct_oCovering (a b : Ori) : Ct Try.prog 53 [kRd eO a, kRd eO b] (kTup [kRd (eL eI) (covL a b), kI (covE a b)]) := by
  refine Ct.mk Try.func53 rfl Try.ntmps53 rfl (fun w J => ?_)
  refine Tr.seq ?_
  refine Tr.rg ?_
  refine TrL.new (ok_box 2 rfl (fun _ => rfl) rfl) rfl rfl rfl rfl ?_
  refine TrL.new (ok_box 3 rfl (fun _ => rfl) rfl) rfl rfl rfl rfl ?_
  refine TrL.op (ok_assign rfl (fun _ => rfl)) rfl rfl ?_
  refine TrL.op (ok_assign rfl (fun _ => rfl)) rfl rfl ?_
  refine TrL.fin ?_
  refine End.nxt ?_
  refine Tr.seq ?_
  refine Tr.seq ?_
  refine Tr.rg ?_
  refine TrL.op (ok_ldBS rfl (fun _ => rfl)) rfl rfl ?_
  refine TrL.op (ok_ldBS rfl (fun _ => rfl)) rfl rfl ?_
  refine TrL.op (ok_bslJ eO (fun hp => .cons rfl <| .cons rfl <| .nil) rfl rfl rfl rfl) rfl rfl ?_
  refine TrL.op (ok_call (fun hp => ct_connected [a, b]) (.a rfl (fun _ => rfl) <| .nil)) rfl rfl ?_
  refine TrL.op (ok_assign rfl (fun _ => rfl)) rfl rfl ?_
  refine TrL.fin ?_
  refine End.nxt ?_
  refine Tr.seq ?_
  refine Tr.rg ?_
  refine TrL.op (ok_move rfl (fun _ => rfl)) rfl rfl ?_
  refine TrL.op (ok_neq rfl (fun _ => rfl) rfl (fun _ => rfl)) rfl rfl ?_
  refine TrL.fin ?_
  refine End.nxt ?_
  refine Tr.cnd rfl ?_ ?_
  · intro h2
    replace h2 := of_decide_eq_true h2
    rw [connE_two] at h2
    have hce : covE a b = chk2 a b := orE_l h2
    refine Tr.seq ?_
    refine Tr.rg ?_
    refine TrL.op (ok_move rfl (fun _ => rfl)) rfl rfl ?_
    refine TrL.op (ok_assign rfl (fun _ => rfl)) rfl rfl ?_
    refine TrL.op (ok_assign rfl (fun _ => rfl)) rfl rfl ?_
    refine TrL.fin ?_
    refine End.nxt ?_
    refine Tr.ret ?_
    refine Rts.thn ?_
    exact Rts.res (fn := Try.f53) (ts := [4, 5]) rfl rfl (.n rfl (by unfold covL; rw [hce, if_neg h2]) <| .i rfl (by rw [hce, connE_two]) <| .nil)
  · intro h2
    replace h2 := Classical.not_not.1 (of_decide_eq_false h2)
    rw [connE_two] at h2
    obtain ⟨va, ca, vb, cb⟩ := chk2_zero h2
    have hce : covE a b = if (mapsL a b).length = 0 then 11 else 0 := orE_r h2
    refine Tr.skip ?_
    refine End.nxt ?_
    refine Tr.seq ?_
    refine Tr.rg ?_
    refine TrL.op (ok_ldBS rfl (fun _ => rfl)) rfl rfl ?_
    refine TrL.op (ok_ldBS rfl (fun _ => rfl)) rfl rfl ?_
    refine TrL.op (ok_call (fun hp => ct_maps _ _ va ca vb) (.s rfl (fun _ => rfl) rfl <| .s rfl (fun _ => rfl) rfl <| .nil)) rfl rfl ?_
    refine TrL.op (ok_call (fun hp => ct_ofirst (mapsL a b)) (.a rfl (fun _ => rfl) <| .nil)) rfl rfl ?_
    refine TrL.op (ok_ext rfl (fun _ => rfl) rfl) rfl rfl ?_
    refine TrL.op (ok_ext rfl (fun _ => rfl) rfl) rfl rfl ?_
    refine TrL.op (ok_assign rfl (fun _ => rfl)) rfl rfl ?_
    refine TrL.op (ok_assign rfl (fun _ => rfl)) rfl rfl ?_
    refine TrL.fin ?_
    refine End.nxt ?_
    refine Tr.ret ?_
    exact Rts.res (fn := Try.f53) (ts := [4, 5]) rfl rfl (.r rfl (by unfold covL; rw [hce]; split <;> rfl) <| .i rfl (by rw [hce]) <| .nil)

set_option maxRecDepth 100000 in
theorem ct_oIso (a b : Ori) : Ct Try.prog 52 [kRd eO a, kRd eO b] (kTup [kRd (eL eI) (isoL a b), kI (isoE a b)]) := by
  refine Ct.mk Try.func52 rfl Try.ntmps52 rfl (fun w J => ?_)
  refine Tr.seq ?_
  refine Tr.rg ?_
  refine TrL.new (ok_box 2 rfl (fun _ => rfl) rfl) rfl rfl rfl rfl ?_
  refine TrL.new (ok_box 3 rfl (fun _ => rfl) rfl) rfl rfl rfl rfl ?_
  refine TrL.op (ok_assign rfl (fun _ => rfl)) rfl rfl ?_
  refine TrL.op (ok_assign rfl (fun _ => rfl)) rfl rfl ?_
  refine TrL.fin ?_
  refine End.nxt ?_
  refine Tr.seq ?_
  refine Tr.seq ?_
  refine Tr.rg ?_
  refine TrL.op (ok_ldBS rfl (fun _ => rfl)) rfl rfl ?_
  refine TrL.op (ok_ldBS rfl (fun _ => rfl)) rfl rfl ?_
  refine TrL.op (ok_bslJ eO (fun hp => .cons rfl <| .cons rfl <| .nil) rfl rfl rfl rfl) rfl rfl ?_
  refine TrL.op (ok_call (fun hp => ct_connected [a, b]) (.a rfl (fun _ => rfl) <| .nil)) rfl rfl ?_
  refine TrL.op (ok_assign rfl (fun _ => rfl)) rfl rfl ?_
  refine TrL.fin ?_
  refine End.nxt ?_
  refine Tr.seq ?_
  refine Tr.rg ?_
  refine TrL.op (ok_move rfl (fun _ => rfl)) rfl rfl ?_
  refine TrL.op (ok_neq rfl (fun _ => rfl) rfl (fun _ => rfl)) rfl rfl ?_
  refine TrL.fin ?_
  refine End.nxt ?_
  refine Tr.cnd rfl ?_ ?_
  · intro h2
    replace h2 := of_decide_eq_true h2
    rw [connE_two] at h2
    have hce : isoE a b = chk2 a b := orE_l h2
    refine Tr.seq ?_
    refine Tr.rg ?_
    refine TrL.op (ok_move rfl (fun _ => rfl)) rfl rfl ?_
    refine TrL.op (ok_assign rfl (fun _ => rfl)) rfl rfl ?_
    refine TrL.op (ok_assign rfl (fun _ => rfl)) rfl rfl ?_
    refine TrL.fin ?_
    refine End.nxt ?_
    refine Tr.ret ?_
    refine Rts.thn ?_
    exact Rts.res (fn := Try.f52) (ts := [4, 5]) rfl rfl (.n rfl (by unfold isoL; rw [hce, if_neg h2]) <| .i rfl (by rw [hce, connE_two]) <| .nil)
  · intro h2
    replace h2 := Classical.not_not.1 (of_decide_eq_false h2)
    rw [connE_two] at h2
    obtain ⟨va, ca, vb, cb⟩ := chk2_zero h2
    have hce : isoE a b = if a.1.length ≠ b.1.length ∨ (mapsL a b).length = 0 then 11 else 0 := orE_r h2
    refine Tr.skip ?_
    refine End.nxt ?_
    refine Tr.seq ?_
    refine Tr.seq ?_
    refine Tr.rg ?_
    refine TrL.op (ok_fldO rfl (fun _ => rfl)) rfl rfl ?_
    refine TrL.op (ok_ldB rfl (fun _ => rfl) rfl) rfl rfl ?_
    refine TrL.op (ok_lenJ rfl (fun _ => rfl)) rfl rfl ?_
    refine TrL.op (ok_fldO rfl (fun _ => rfl)) rfl rfl ?_
    refine TrL.op (ok_ldB rfl (fun _ => rfl) rfl) rfl rfl ?_
    refine TrL.op (ok_lenJ rfl (fun _ => rfl)) rfl rfl ?_
    refine TrL.op (ok_neq rfl (fun _ => rfl) rfl (fun _ => rfl)) rfl rfl ?_
    refine TrL.fin ?_
    refine End.nxt ?_
    refine Tr.cnd rfl ?_ ?_
    · intro h4
      replace h4 := of_decide_eq_true h4
      rw [if_pos (.inl (by omega))] at hce
      refine Tr.seq ?_
      refine Tr.rg ?_
      refine TrL.op (ok_assign rfl (fun _ => rfl)) rfl rfl ?_
      refine TrL.op (ok_assign rfl (fun _ => rfl)) rfl rfl ?_
      refine TrL.fin ?_
      refine End.nxt ?_
      refine Tr.ret ?_
      refine Rts.thn ?_
      exact Rts.res (fn := Try.f52) (ts := [4, 5]) rfl rfl (.n rfl (by unfold isoL; rw [hce]; rfl) <| .i rfl (by rw [hce]) <| .nil)
    · intro h4
      replace h4 := Classical.not_not.1 (of_decide_eq_false h4)
      have hsz : a.1.length = b.1.length := by omega
      simp only [hsz, ne_eq, not_true_eq_false, false_or] at hce
      refine Tr.skip ?_
      refine End.nxt ?_
      refine Tr.seq ?_
      refine Tr.rg ?_
      refine TrL.op (ok_ldBS rfl (fun _ => rfl)) rfl rfl ?_
      refine TrL.op (ok_ldBS rfl (fun _ => rfl)) rfl rfl ?_
      refine TrL.op (ok_call (fun hp => ct_maps _ _ va ca vb) (.s rfl (fun _ => rfl) rfl <| .s rfl (fun _ => rfl) rfl <| .nil)) rfl rfl ?_
      refine TrL.op (ok_call (fun hp => ct_ofirst (mapsL a b)) (.a rfl (fun _ => rfl) <| .nil)) rfl rfl ?_
      refine TrL.op (ok_ext rfl (fun _ => rfl) rfl) rfl rfl ?_
      refine TrL.op (ok_ext rfl (fun _ => rfl) rfl) rfl rfl ?_
      refine TrL.op (ok_assign rfl (fun _ => rfl)) rfl rfl ?_
      refine TrL.op (ok_assign rfl (fun _ => rfl)) rfl rfl ?_
      refine TrL.fin ?_
      refine End.nxt ?_
      refine Tr.ret ?_
      exact Rts.res (fn := Try.f52) (ts := [4, 5]) rfl rfl (.r rfl (by unfold isoL; rw [hce]; split <;> rfl) <| .i rfl (by rw [hce]) <| .nil)

set_option maxRecDepth 100000 in
theorem ct_OrigamiMaps (a b : Ori) : Ct Try.prog 10 [kRd eO a, kRd eO b] (kB true) := by
  refine Ct.mk Try.func10 rfl Try.ntmps10 rfl (fun w J => ?_)
  refine Tr.seq ?_
  refine Tr.rg ?_
  refine TrL.new (ok_box 2 rfl (fun _ => rfl) rfl) rfl rfl rfl rfl ?_
  refine TrL.new (ok_box 3 rfl (fun _ => rfl) rfl) rfl rfl rfl rfl ?_
  refine TrL.op (ok_assign rfl (fun _ => rfl)) rfl rfl ?_
  refine TrL.fin ?_
  refine End.nxt ?_
  refine Tr.seq ?_
  refine Tr.seq ?_
  refine Tr.rg ?_
  refine TrL.op (ok_call (fun hp => ct_awake) (.nil)) rfl rfl ?_
  refine TrL.op (ok_not rfl (fun _ => rfl)) rfl rfl ?_
  refine TrL.fin ?_
  refine End.nxt ?_
  refine Tr.cnd rfl ?_ ?_
  · intro h1
    simp at h1
  · intro h1
    refine Tr.skip ?_
    refine End.nxt ?_
    refine Tr.seq ?_
    refine Tr.seq ?_
    refine Tr.rg ?_
    refine TrL.op (ok_ldBS rfl (fun _ => rfl)) rfl rfl ?_
    refine TrL.op (ok_call (fun hp => ct_Few _) (.s rfl (fun _ => rfl) rfl <| .nil)) rfl rfl ?_
    refine TrL.op (ok_not rfl (fun _ => rfl)) rfl rfl ?_
    refine TrL.op (ok_move rfl (fun _ => rfl)) rfl rfl ?_
    refine TrL.gd rfl rfl rfl (ok_ldBS rfl (fun _ => rfl)) rfl rfl ?_
    refine TrL.gd rfl rfl rfl (ok_call (fun hp => ct_Few _) (.s rfl id rfl <| .nil)) rfl rfl ?_
    refine TrL.gd rfl rfl rfl (ok_not rfl id) rfl rfl ?_
    refine TrL.op (ok_or rfl (fun _ => rfl) rfl (fun hp h => gdF2 ((fun _ => rfl) hp) h)) rfl rfl ?_
    refine TrL.fin ?_
    refine End.nxt ?_
    refine Tr.cnd rfl ?_ ?_
    · intro h3
      refine Tr.seq ?_
      refine Tr.rg ?_
      refine TrL.op (ok_assign rfl (fun _ => rfl)) rfl rfl ?_
      refine TrL.fin ?_
      refine End.nxt ?_
      refine Tr.ret ?_
      refine Rts.thn ?_
      exact Rts.res1 (fn := Try.f10) rfl (.b rfl (by rfl) <| .nil)
    · intro h3
      refine Tr.skip ?_
      refine End.nxt ?_
      refine Tr.seq ?_
      refine Tr.rg ?_
      refine TrL.op (ok_ldBS rfl (fun _ => rfl)) rfl rfl ?_
      refine TrL.op (ok_ldBS rfl (fun _ => rfl)) rfl rfl ?_
      refine TrL.op (ok_call (fun hp => ct_oIso _ _) (.s rfl (fun _ => rfl) rfl <| .s rfl (fun _ => rfl) rfl <| .nil)) rfl rfl ?_
      refine TrL.op (ok_move rfl (fun _ => rfl)) rfl rfl ?_
      refine TrL.op (ok_ext rfl (fun _ => rfl) rfl) rfl rfl ?_
      refine TrL.op (ok_ext rfl (fun _ => rfl) rfl) rfl rfl ?_
      refine TrL.op (ok_assign rfl (fun _ => rfl)) rfl rfl ?_
      refine TrL.op (ok_assign rfl (fun _ => rfl)) rfl rfl ?_
      refine TrL.fin ?_
      refine End.nxt ?_
      refine Tr.seq ?_
      refine Tr.rg ?_
      refine TrL.op (ok_ldBS rfl (fun _ => rfl)) rfl rfl ?_
      refine TrL.op (ok_ldBS rfl (fun _ => rfl)) rfl rfl ?_
      refine TrL.op (ok_call (fun hp => ct_oCovering _ _) (.s rfl (fun _ => rfl) rfl <| .s rfl (fun _ => rfl) rfl <| .nil)) rfl rfl ?_
      refine TrL.op (ok_move rfl (fun _ => rfl)) rfl rfl ?_
      refine TrL.op (ok_ext rfl (fun _ => rfl) rfl) rfl rfl ?_
      refine TrL.op (ok_ext rfl (fun _ => rfl) rfl) rfl rfl ?_
      refine TrL.op (ok_assign rfl (fun _ => rfl)) rfl rfl ?_
      refine TrL.op (ok_assign rfl (fun _ => rfl)) rfl rfl ?_
      refine TrL.fin ?_
      refine End.nxt ?_
      refine Tr.seq ?_
      refine Tr.seq ?_
      refine Tr.rg ?_
      refine TrL.op (ok_ldBS rfl (fun _ => rfl)) rfl rfl ?_
      refine TrL.op (ok_ldBS rfl (fun _ => rfl)) rfl rfl ?_
      refine TrL.op (ok_call (fun hp => ct_rCheckTwo _ _) (.s rfl (fun _ => rfl) rfl <| .s rfl (fun _ => rfl) rfl <| .nil)) rfl rfl ?_
      refine TrL.op (ok_assign rfl (fun _ => rfl)) rfl rfl ?_
      refine TrL.fin ?_
      refine End.nxt ?_
      refine Tr.seq ?_
      refine Tr.rg ?_
      refine TrL.op (ok_move rfl (fun _ => rfl)) rfl rfl ?_
      refine TrL.op (ok_neq rfl (fun _ => rfl) rfl (fun _ => rfl)) rfl rfl ?_
      refine TrL.fin ?_
      refine End.nxt ?_
      refine Tr.cnd rfl ?_ ?_
      · intro h8
        replace h8 := of_decide_eq_true h8
        have e1 : isoE a b = chk2 a b := orE_l h8
        have e2 : covE a b = chk2 a b := orE_l h8
        have l1 : isoL a b = [] := (by unfold isoL; rw [e1, if_neg h8])
        have l2 : covL a b = [] := (by unfold covL; rw [e2, if_neg h8])
        refine Tr.seq ?_
        refine Tr.rg ?_
        refine TrL.op (ok_move rfl (fun _ => rfl)) rfl rfl ?_
        refine TrL.op (ok_move rfl (fun _ => rfl)) rfl rfl ?_
        refine TrL.op (ok_eql rfl (fun _ => rfl) rfl (fun _ => rfl)) rfl rfl ?_
        refine TrL.op (ok_move rfl (fun _ => rfl)) rfl rfl ?_
        refine TrL.gd rfl rfl rfl (ok_move rfl (fun _ => rfl)) rfl rfl ?_
        refine TrL.gd rfl rfl rfl (ok_move rfl (fun _ => rfl)) rfl rfl ?_
        refine TrL.gd rfl rfl rfl (ok_eql rfl id rfl id) rfl rfl ?_
        refine TrL.op (ok_and rfl (fun _ => rfl) rfl (fun hp h => gdT2 ((fun _ => rfl) hp) h)) rfl rfl ?_
        refine TrL.op (ok_move rfl (fun _ => rfl)) rfl rfl ?_
        refine TrL.gd rfl rfl rfl (ok_move rfl (fun _ => rfl)) rfl rfl ?_
        refine TrL.gd rfl rfl rfl (ok_lenJ rfl id) rfl rfl ?_
        refine TrL.gd rfl rfl rfl (ok_eql rfl id rfl (fun _ => rfl)) rfl rfl ?_
        refine TrL.op (ok_and rfl (fun _ => rfl) rfl (fun hp h => gdT2 ((fun _ => rfl) hp) h)) rfl rfl ?_
        refine TrL.op (ok_move rfl (fun _ => rfl)) rfl rfl ?_
        refine TrL.gd rfl rfl rfl (ok_move rfl (fun _ => rfl)) rfl rfl ?_
        refine TrL.gd rfl rfl rfl (ok_lenJ rfl id) rfl rfl ?_
        refine TrL.gd rfl rfl rfl (ok_eql rfl id rfl (fun _ => rfl)) rfl rfl ?_
        refine TrL.op (ok_and rfl (fun _ => rfl) rfl (fun hp h => gdT2 ((fun _ => rfl) hp) h)) rfl rfl ?_
        refine TrL.op (ok_assign rfl (fun _ => rfl)) rfl rfl ?_
        refine TrL.fin ?_
        refine End.nxt ?_
        refine Tr.ret ?_
        refine Rts.thn ?_
        exact Rts.res1 (fn := Try.f10) rfl (.b rfl (by simp [e1, e2, l1, l2]) <| .nil)
      · intro h8
        replace h8 := Classical.not_not.1 (of_decide_eq_false h8)
        obtain ⟨va, ca, vb, cb⟩ := chk2_zero h8
        have e1 : isoE a b = if a.1.length ≠ b.1.length ∨ (mapsL a b).length = 0 then 11 else 0 := orE_r h8
        have e2 : covE a b = if (mapsL a b).length = 0 then 11 else 0 := orE_r h8
        refine Tr.skip ?_
        refine End.nxt ?_
        refine Tr.seq ?_
        refine Tr.rg ?_
        refine TrL.op (ok_ldBS rfl (fun _ => rfl)) rfl rfl ?_
        refine TrL.op (ok_ldBS rfl (fun _ => rfl)) rfl rfl ?_
        refine TrL.op (ok_call (fun hp => ct_rMaps _ _ va ca vb) (.s rfl (fun _ => rfl) rfl <| .s rfl (fun _ => rfl) rfl <| .nil)) rfl rfl ?_
        refine TrL.op (ok_assign rfl (fun _ => rfl)) rfl rfl ?_
        refine TrL.fin ?_
        refine End.nxt ?_
        refine Tr.seq ?_
        refine Tr.seq ?_
        refine Tr.rg ?_
        refine TrL.op (ok_move rfl (fun _ => rfl)) rfl rfl ?_
        refine TrL.op (ok_lenJ rfl (fun _ => rfl)) rfl rfl ?_
        refine TrL.op (ok_eql rfl (fun _ => rfl) rfl (fun _ => rfl)) rfl rfl ?_
        refine TrL.fin ?_
        refine End.nxt ?_
        refine Tr.cnd rfl ?_ ?_
        · intro h11
          replace h11 := of_decide_eq_true h11
          have hm0 : (mapsL a b).length = 0 := by omega
          rw [if_pos (.inr hm0)] at e1
          rw [if_pos hm0] at e2
          have l1 : isoL a b = [] := (by unfold isoL; rw [e1]; rfl)
          have l2 : covL a b = [] := (by unfold covL; rw [e2]; rfl)
          refine Tr.seq ?_
          refine Tr.rg ?_
          refine TrL.op (ok_move rfl (fun _ => rfl)) rfl rfl ?_
          refine TrL.op (ok_eql rfl (fun _ => rfl) rfl (fun _ => rfl)) rfl rfl ?_
          refine TrL.op (ok_move rfl (fun _ => rfl)) rfl rfl ?_
          refine TrL.gd rfl rfl rfl (ok_move rfl (fun _ => rfl)) rfl rfl ?_
          refine TrL.gd rfl rfl rfl (ok_eql rfl id rfl (fun _ => rfl)) rfl rfl ?_
          refine TrL.op (ok_and rfl (fun _ => rfl) rfl (fun hp h => gdT2 ((fun _ => rfl) hp) h)) rfl rfl ?_
          refine TrL.op (ok_move rfl (fun _ => rfl)) rfl rfl ?_
          refine TrL.gd rfl rfl rfl (ok_move rfl (fun _ => rfl)) rfl rfl ?_
          refine TrL.gd rfl rfl rfl (ok_lenJ rfl id) rfl rfl ?_
          refine TrL.gd rfl rfl rfl (ok_eql rfl id rfl (fun _ => rfl)) rfl rfl ?_
          refine TrL.op (ok_and rfl (fun _ => rfl) rfl (fun hp h => gdT2 ((fun _ => rfl) hp) h)) rfl rfl ?_
          refine TrL.op (ok_move rfl (fun _ => rfl)) rfl rfl ?_
          refine TrL.gd rfl rfl rfl (ok_move rfl (fun _ => rfl)) rfl rfl ?_
          refine TrL.gd rfl rfl rfl (ok_lenJ rfl id) rfl rfl ?_
          refine TrL.gd rfl rfl rfl (ok_eql rfl id rfl (fun _ => rfl)) rfl rfl ?_
          refine TrL.op (ok_and rfl (fun _ => rfl) rfl (fun hp h => gdT2 ((fun _ => rfl) hp) h)) rfl rfl ?_
          refine TrL.op (ok_assign rfl (fun _ => rfl)) rfl rfl ?_
          refine TrL.fin ?_
          refine End.nxt ?_
          refine Tr.ret ?_
          refine Rts.thn ?_
          exact Rts.res1 (fn := Try.f10) rfl (.b rfl (by simp [e1, e2, l1, l2]) <| .nil)
        · intro h11
          replace h11 := of_decide_eq_false h11
          have hm0 : (mapsL a b).length ≠ 0 := by omega
          rw [if_neg hm0] at e2
          have l2 : covL a b = nth (mapsL a b) 0 := (by unfold covL; rw [e2]; rfl)
          refine Tr.skip ?_
          refine End.nxt ?_
          refine Tr.seq ?_
          refine Tr.seq ?_
          refine Tr.rg ?_
          refine TrL.op (ok_move rfl (fun _ => rfl)) rfl rfl ?_
          refine TrL.op (ok_neq rfl (fun _ => rfl) rfl (fun _ => rfl)) rfl rfl ?_
          refine TrL.op (ok_move rfl (fun _ => rfl)) rfl rfl ?_
          refine TrL.gd rfl rfl rfl (ok_move rfl (fun _ => rfl)) rfl rfl ?_
          refine TrL.gd rfl rfl rfl (ok_move rfl (fun _ => rfl)) rfl rfl ?_
          first | refine TrL.gd rfl rfl rfl (ok_idxN rfl id rfl (fun _ => rfl) rfl (fun hp => by simp at hp; omega)) rfl rfl ?_ | refine TrL.gd rfl rfl rfl (ok_idxP rfl id rfl (fun _ => rfl) rfl (fun hp => by simp at hp; omega)) rfl rfl ?_
          refine TrL.gd rfl rfl rfl (ok_ldP rfl id rfl) rfl rfl ?_
          refine TrL.gd rfl rfl rfl (ok_call (fun hp => ct_Ints _ _) (.a rfl id <| .a rfl id <| .nil)) rfl rfl ?_
          refine TrL.gd rfl rfl rfl (ok_not rfl id) rfl rfl ?_
          refine TrL.op (ok_or rfl (fun _ => rfl) rfl (fun hp h => gdF2 ((fun _ => rfl) hp) h)) rfl rfl ?_
          refine TrL.fin ?_
          refine End.nxt ?_
          refine Tr.cnd rfl ?_ ?_
          · intro h13
            rw [e2, l2] at h13
            simp at h13
          · intro h13
            refine Tr.skip ?_
            refine End.nxt ?_
            refine Tr.seq ?_
            refine Tr.seq ?_
            refine Tr.draw 3 mixed (by kernel_rfl) ?_
            refine RunD.op (ok_ldBS rfl (fun _ => rfl)) rfl rfl ?_
            refine RunD.op (ok_call (fun hp => ct_rSize _) (.s rfl (fun _ => rfl) rfl <| .nil)) rfl rfl ?_
            refine RunD.op (ok_ldBS rfl (fun _ => rfl)) rfl rfl ?_
            refine RunD.z ?_
            refine TrL.op (ok_call (fun hp => ct_rSize _) (.s rfl (fun _ => rfl) rfl <| .nil)) rfl rfl ?_
            refine TrL.op (ok_neq rfl (fun _ => rfl) rfl (fun _ => rfl)) rfl rfl ?_
            refine TrL.fin ?_
            refine End.nxt ?_
            refine Tr.cnd rfl ?_ ?_
            · intro h15
              replace h15 := of_decide_eq_true h15
              rw [if_pos (.inl (by omega))] at e1
              have l1 : isoL a b = [] := (by unfold isoL; rw [e1]; rfl)
              refine Tr.seq ?_
              refine Tr.rg ?_
              refine TrL.op (ok_move rfl (fun _ => rfl)) rfl rfl ?_
              refine TrL.op (ok_eql rfl (fun _ => rfl) rfl (fun _ => rfl)) rfl rfl ?_
              refine TrL.op (ok_move rfl (fun _ => rfl)) rfl rfl ?_
              refine TrL.gd rfl rfl rfl (ok_move rfl (fun _ => rfl)) rfl rfl ?_
              refine TrL.gd rfl rfl rfl (ok_lenJ rfl id) rfl rfl ?_
              refine TrL.gd rfl rfl rfl (ok_eql rfl id rfl (fun _ => rfl)) rfl rfl ?_
              refine TrL.op (ok_and rfl (fun _ => rfl) rfl (fun hp h => gdT2 ((fun _ => rfl) hp) h)) rfl rfl ?_
              refine TrL.op (ok_assign rfl (fun _ => rfl)) rfl rfl ?_
              refine TrL.fin ?_
              refine End.nxt ?_
              refine Tr.ret ?_
              refine Rts.thn ?_
              exact Rts.res1 (fn := Try.f10) rfl (.b rfl (by simp [e1, l1]) <| .nil)
            · intro h15
              replace h15 := Classical.not_not.1 (of_decide_eq_false h15)
              rw [if_neg (by omega)] at e1
              have l1 : isoL a b = nth (mapsL a b) 0 := (by unfold isoL; rw [e1]; rfl)
              refine Tr.skip ?_
              refine End.nxt ?_
              refine Tr.seq ?_
              refine Tr.rg ?_
              refine TrL.op (ok_move rfl (fun _ => rfl)) rfl rfl ?_
              refine TrL.op (ok_eql rfl (fun _ => rfl) rfl (fun _ => rfl)) rfl rfl ?_
              refine TrL.op (ok_move rfl (fun _ => rfl)) rfl rfl ?_
              refine TrL.gd rfl rfl rfl (ok_move rfl (fun _ => rfl)) rfl rfl ?_
              refine TrL.gd rfl rfl rfl (ok_move rfl (fun _ => rfl)) rfl rfl ?_
              first | refine TrL.gd rfl rfl rfl (ok_idxN rfl id rfl (fun _ => rfl) rfl (fun hp => by simp at hp; omega)) rfl rfl ?_ | refine TrL.gd rfl rfl rfl (ok_idxP rfl id rfl (fun _ => rfl) rfl (fun hp => by simp at hp; omega)) rfl rfl ?_
              refine TrL.gd rfl rfl rfl (ok_ldP rfl id rfl) rfl rfl ?_
              refine TrL.gd rfl rfl rfl (ok_call (fun hp => ct_Ints _ _) (.a rfl id <| .a rfl id <| .nil)) rfl rfl ?_
              refine TrL.op (ok_and rfl (fun _ => rfl) rfl (fun hp h => gdT2 ((fun _ => rfl) hp) h)) rfl rfl ?_
              refine TrL.op (ok_assign rfl (fun _ => rfl)) rfl rfl ?_
              refine TrL.fin ?_
              refine End.nxt ?_
              refine Tr.ret ?_
              exact Rts.res1 (fn := Try.f10) rfl (.b rfl (by simp [e1, l1]) <| .nil)

end Go.Fl

/- Parts of an origami, cycles of lists. Plain Lean, no program in sight. -/
namespace Go.Fl
theorem comps_get {o : Ori} : ∀ {k : Nat} {c : List Int}, c ∈ comps o k → ∃ j : Nat, j < k ∧ c = compL o j
  | 0, c, h => by cases h
  | k + 1, c, h => by
    rw [comps] at h
    split at h
    · obtain ⟨j, h1, h2⟩ := comps_get h; exact ⟨j, by omega, h2⟩
    · rcases List.mem_append.1 h with h | h
      · obtain ⟨j, h1, h2⟩ := comps_get h; exact ⟨j, by omega, h2⟩
      · exact ⟨k, by omega, by simpa using h⟩
structure IsComp (o : Ori) (c : List Int) : Prop where
  nd : c.Nodup
  sq : ∀ x ∈ c, Sq o.1.length x
  R : ∀ x ∈ c, ap o.1 x ∈ c
  U : ∀ x ∈ c, ap o.2 x ∈ c
theorem isComp {o : Ori} (v : Valid o) {c : List Int} (h : c ∈ comps o o.1.length) : IsComp o c := by
  obtain ⟨j, hj, rfl⟩ := comps_get h
  have hs : Sq o.1.length (j : Int) := Sq.nat hj
  have hm := fun {x} => mem_compL (x := x) v hs
  exact ⟨asc_nodup, fun x hx => reach_sq v hs (hm.1 hx), fun x hx => hm.2 (reach_closed v hs (hm.1 hx)).1, fun x hx => hm.2 (reach_closed v hs (hm.1 hx)).2⟩
theorem IsComp.len {o : Ori} {c : List Int} (h : IsComp o c) : c.length ≤ o.1.length := (show Good o.1.length c from ⟨h.nd, h.sq⟩).len
def partF (p c : List Int) (j : Nat) : Int := atL c (ap p (nth c j))
def partO (o : Ori) (c : List Int) : Ori := (tab c.length (partF o.1 c), tab c.length (partF o.2 c))
def partE (o : Ori) (i : Int) : Int := orE (chkO o) (if 0 ≤ i ∧ i < (comps o o.1.length).length then 0 else 6)
def partR (o : Ori) (i : Int) : Ori := if partE o i = 0 then partO o (nth (comps o o.1.length) i.toNat) else ([], [])
theorem take_new {c : List Int} (h : c.Nodup) {k : Nat} (hk : k < c.length) : nth c k ∉ c.take k := fun hm => by
  obtain ⟨i, hi, e⟩ := List.getElem_of_mem hm
  rw [List.length_take] at hi
  rw [List.getElem_take] at e
  have h1 : nth c i = nth c k := by rw [← e]; exact nth_of_get? (List.getElem?_eq_getElem (by omega))
  have := nodup_nth h (by omega) hk h1
  omega
theorem look_at {c : List Int} (hn : c.Nodup) {m : Int} (h : m ∈ c) : ∃ i, i < c.length ∧ nth c i = m ∧ nth (sqs c.length) i = atL c m ∧ ∀ j, j < i → nth c j ≠ m := by
  have hr := atL_rng h
  refine ⟨(atL c m).toNat, by omega, nth_atL h, ?_, fun j hj e => ?_⟩
  · unfold sqs; rw [nth_tab (by omega)]; omega
  · have := nodup_nth hn (i := j) (j := (atL c m).toNat) (by omega) (by omega) (e.trans (nth_atL h).symm)
    omega
def cycE (p : List Int) : Int := if 60 < p.length then 8 else chkL p p.length
theorem perm_of_chk {p : List Int} (h : chkL p p.length = 0) : Perm p p.length := by
  obtain ⟨h1, h2⟩ := chkL_zero.1 h
  exact ⟨h2, h1, rfl⟩
end Go.Fl

/- Rows that a struct of the call's own holds: they begin as nil, and are appended to; maps of integers. No program in sight. -/
namespace Go.Fl
open Go Go.RowKit

instance {ks kx out : List Know} [h : SetAt ks 0 kx out] : SetAt ks (0 + 0) kx out := h
/-! ### 1. Cells of which less is said -/
inductive Wk : List Know → List Know → Prop
  | nil : Wk [] []
  | k {k : Know} {ks ls : List Know} (r : Wk ks ls) : Wk (k :: ks) (k :: ls)
  | any {k : Know} {ks ls : List Know} (r : Wk ks ls) : Wk (k :: ks) (kAny :: ls)
theorem Wk.imp {ks ls : List Know} (h : Wk ks ls) {g : Gh} : ∀ {vs : List Value}, allK g ks vs → allK g ls vs := by
  induction h with
  | nil => intro vs h; exact h
  | k _ ih => intro vs h; cases vs with
    | nil => exact h.elim
    | cons v vs => exact ⟨h.1, ih h.2⟩
  | any _ ih => intro vs h; cases vs with
    | nil => exact h.elim
    | cons v vs => exact ⟨trivial, ih h.2⟩
theorem Sat.conC {c : Ctx} {S : Slots} {M M' : Conts} {a : Act} {g : Gh} {w : World} (h : Sat c S M a g w) {v : Nat} {ct ct' : Cont} {dep dep' : List Nat} [hl : LkM M v ct dep] (hc : ∀ g b o, ct g b o → ct' g b o) (hd : CDep ct' dep') (hup : UpM M v ct' dep' M') (hs : ∀ t ∈ dep', t ∈ tags M) : Sat c S M' a g w := by
  have htag := hup.tags
  refine ⟨h.ok, h.slots, fun e he => ?_, fun t ht => ?_, ?_, fun e he => ?_, fun e he => ?_, h.defers, h.size⟩
  · rcases hup.mem h.nodup e he with rfl | ⟨he, _⟩
    · obtain ⟨b, h1, h2⟩ := h.conts _ hl.mem
      exact ⟨b, h1, hc _ _ _ h2⟩
    · exact h.conts e he
  · have := h.dom t ht
    show t ∈ tags M'
    rw [htag]; exact this
  · show (tags M').Nodup
    rw [htag]; exact h.nodup
  · exact ⟨(h.sdep e he).1, fun t ht => by show t ∈ tags M'; rw [htag]; exact (h.sdep e he).2 t ht⟩
  · rcases hup.mem h.nodup e he with rfl | ⟨he, _⟩
    · exact ⟨hd, fun t ht => by show t ∈ tags M'; rw [htag]; exact hs t ht⟩
    · exact ⟨(h.cdep e he).1, fun t ht => by show t ∈ tags M'; rw [htag]; exact (h.cdep e he).2 t ht⟩
/-! ### 2. A nil slice in a struct's cell is a row that is nowhere yet -/
theorem Sat.growC {c : Ctx} {S : Slots} {M M1 : Conts} {a : Act} {g : Gh} {w : World} (h : Sat c S M a g w) (v o u : Nat) {ks ks' : List Know} {dep dep' : List Nat} [hl : LkM M v (cBlk ks) dep] (ho : ks[o]? = some (kDet (.slice none 0 0))) (he : ks' = ks.set o (kOsl u 0)) (hd : CDep (cBlk ks') dep') (hup : UpM M v (cBlk ks') dep' M1)
    (hf : subT [u] (tags M) = false) {α : Type} (et : TypeId) (e : Enc α) (hs : subT dep' (u :: tags M) = true) (hdk : ∀ k ∈ ks, ∃ d, KDep k d ∧ ∀ t ∈ d, t ∈ tags M) : ∃ g', Sat c S (⟨u, [], cArr true et e [] 0⟩ :: M1) a g' w := by
  have hfresh : u ∉ tags M := by
    intro ht
    have : subT [u] (tags M) = true := by
      simp only [subT, Bool.and_true]
      exact List.any_eq_true.2 ⟨u, ht, Nat.beq_refl u⟩
    rw [hf] at this; cases this
  have hnone : g.M u = none := by
    cases hm : g.M u with
    | none => rfl
    | some b => exact absurd (h.dom u (by rw [hm]; simp)) hfresh
  have hle : g.le (g.add u .nil) := ⟨JV.le_refl _, fun t b hb => by
    simp only [Gh.add]
    by_cases ht : t = u
    · subst ht; rw [hnone] at hb; cases hb
    · rw [if_neg ht]; exact hb⟩
  have hblk : ∀ t b cap, (g.add u .nil).M t = some (.blk b cap) → g.M t = some (.blk b cap) := fun t b cap ht => by
    simp only [Gh.add] at ht
    by_cases e : t = u
    · rw [if_pos e] at ht; cases ht
    · rw [if_neg e] at ht; exact ht
  have htag := hup.tags
  refine ⟨g.add u .nil, ⟨⟨h.ok.bel, h.ok.jle, h.ok.jold, h.ok.im, fun t b cap ht => h.ok.own t b cap (hblk _ _ _ ht), fun t t' b c1 c2 h1 h2 => h.ok.inj t t' b c1 c2 (hblk _ _ _ h1) (hblk _ _ _ h2)⟩, h.slots.on h.sdep h.conts hle, fun x hx => ?_, fun t ht => ?_, ?_, fun x hx => ?_, fun x hx => ?_, h.defers, h.size⟩⟩
  · rcases List.mem_cons.1 hx with rfl | hx
    · exact ⟨_, Gh.add_same _ _ _, rfl, rfl⟩
    · rcases hup.mem h.nodup x hx with rfl | ⟨hx, _⟩
      · obtain ⟨b, h1, cs, ty, h2, h3⟩ := h.conts _ hl.mem
        refine ⟨b, hle.2 _ _ h1, cs, ty, h2, ?_⟩
        have hmono : allK (g.add u .nil) ks cs.toList := by
          have : ∀ {ls : List Know} {vs : List Value}, (∀ k ∈ ls, ∃ d, KDep k d ∧ ∀ t ∈ d, t ∈ tags M) → allK g ls vs → allK (g.add u .nil) ls vs := by
            intro ls
            induction ls with
            | nil => intro vs _ h; cases vs <;> exact h
            | cons k ls ih =>
              intro vs hk hh
              cases vs with
              | nil => exact hh.elim
              | cons x vs =>
                obtain ⟨d, q1, q2⟩ := hk k List.mem_cons_self
                exact ⟨know_on h.conts hle q1 q2 hh.1, ih (fun z hz => hk z (List.mem_cons_of_mem _ hz)) hh.2⟩
          exact this hdk h3
        obtain ⟨x, hx1, hx2⟩ := allK_get h3 ho
        have hx2 : x = .slice none 0 0 := hx2
        have := allK_set hmono o (k := kOsl u 0) (v := x) (.inl ⟨Gh.add_same _ _ _, rfl, hx2⟩)
        rw [he]
        have hcs : cs.toList.set o x = cs.toList := by
          refine List.ext_getElem? fun j => ?_
          by_cases e : o = j
          · subst e
            rw [List.getElem?_set_self (List.getElem?_eq_some_iff.1 hx1).1, hx1]
          · rw [List.getElem?_set_ne e]
        rwa [hcs] at this
      · obtain ⟨b, h1, h2⟩ := h.conts x hx
        exact ⟨b, hle.2 _ _ h1, (h.cdep x hx).1.dep hle.1 (fun t ht => by obtain ⟨b, hb⟩ := h.conts.tag ((h.cdep x hx).2 t ht); rw [hb]; exact hle.2 t b hb) h2⟩
  · by_cases e' : t = u
    · subst e'; exact List.mem_cons_self
    · have : g.M t ≠ none := by simpa [Gh.add, e'] using ht
      have := h.dom t this
      exact List.mem_cons_of_mem _ (by show t ∈ tags M1; rw [htag]; exact this)
  · refine List.nodup_cons.2 ⟨?_, ?_⟩
    · show u ∉ tags M1
      rw [htag]; exact hfresh
    · show (tags M1).Nodup
      rw [htag]; exact h.nodup
  · exact ⟨(h.sdep x hx).1, fun t ht => List.mem_cons_of_mem _ (by show t ∈ tags M1; rw [htag]; exact (h.sdep x hx).2 t ht)⟩
  · rcases List.mem_cons.1 hx with rfl | hx
    · exact ⟨inferInstance, fun _ h => by cases h⟩
    · rcases hup.mem h.nodup x hx with rfl | ⟨hx, _⟩
      · refine ⟨hd, fun t ht => ?_⟩
        have := subT_spec hs t ht
        rcases List.mem_cons.1 this with rfl | this
        · exact List.mem_cons_self
        · exact List.mem_cons_of_mem _ (by show t ∈ tags M1; rw [htag]; exact this)
      · exact ⟨(h.cdep x hx).1, fun t ht => List.mem_cons_of_mem _ (by show t ∈ tags M1; rw [htag]; exact (h.cdep x hx).2 t ht)⟩
/-- All of these hang on tags of the list alone. -/
class KsAll (ks : List Know) (L : List Nat) : Prop where
  all : ∀ k ∈ ks, ∃ d, KDep k d ∧ ∀ t ∈ d, t ∈ L
instance {L : List Nat} : KsAll [] L := ⟨fun _ h => by cases h⟩
theorem KsAll.cons {k : Know} {ks : List Know} {L d : List Nat} (h : KDep k d) (hd : subT d L = true) (r : KsAll ks L) : KsAll (k :: ks) L := ⟨fun x hx => by
  rcases List.mem_cons.1 hx with rfl | hx
  · exact ⟨d, h, subT_spec hd⟩
  · exact r.all x hx⟩
/-! ### 3. Maps from integers to integers -/
def cMapI (xs : List Int) (ys : List Int) : Cont := fun g b o => xs.length = ys.length ∧ cMap (xs.map (Value.int .i64)) (ys.map fun y => kI y) g b o
theorem allK_ints {g g' : Gh} : ∀ {ys : List Int} {vs : List Value}, allK g (ys.map fun y => kI y) vs → allK g' (ys.map fun y => kI y) vs
  | [], [], h => h
  | _ :: ys, _ :: vs, h => ⟨h.1, allK_ints (ys := ys) (vs := vs) h.2⟩
  | [], _ :: _, h => h.elim
  | _ :: _, [], h => h.elim
instance {xs ys : List Int} : CDep (cMapI xs ys) [] := ⟨fun _ _ ⟨h0, h1, es, cl, h2, h3, h4⟩ => ⟨h0, h1, es, cl, h2, h3, allK_ints h4⟩⟩
instance (ys : List Int) : KsDep (ys.map fun y => kI y) [] := ⟨fun _ _ h => allK_ints h⟩
section
variable {P : Program} {c : Ctx} {ops : Array Oper} {S : Slots} {M M' : Conts} {rest : List Oper} {Q : Exit → Act → World → Prop}
variable {p : Bool} {d : Option Tmp} {ty : TypeId} {pos : String} {af : Array Edge} {gd : Option (Nat × Bool)} {x y z : Operand} {b b' : Bool} {code : Code}
theorem TrL.wkC (v : Nat) {ks ls : List Know} {dep dep' : List Nat} [hl : LkM M v (cBlk ks) dep] (hw : Wk ks ls) [hd : KsDep ls dep'] [hup : UpM M v (cBlk ls) dep' M'] (hs : subT dep' (tags M) = true) (K : TrL P c ops S M' rest Q) : TrL P c ops S M rest Q :=
  fun a g w h => K a g w (h.conC (ct := cBlk ks) (fun _ _ _ ⟨cs, ty, h1, h2⟩ => ⟨cs, ty, h1, hw.imp h2⟩) inferInstance hup (subT_spec hs))
theorem Tr.growC (v o u : Nat) {ks : List Know} {dep dep' : List Nat} [hl : LkM M v (cBlk ks) dep] (ho : ks[o]? = some (kDet (.slice none 0 0))) {ks' : List Know} (he : ks' = ks.set o (kOsl u 0)) [hd : KsDep ks' dep'] [hup : UpM M v (cBlk ks') dep' M']
    (hf : subT [u] (tags M) = false) {α : Type} (et : TypeId) (e : Enc α) (hs : subT dep' (u :: tags M) = true) (hk : KsAll ks (tags M)) (K : Tr P c S (⟨u, [], cArr true et e [] 0⟩ :: M') code Q) : Tr P c S M code Q :=
  fun a _ w h => let ⟨g', h'⟩ := h.growC v o u ho he inferInstance hup hf et e hs hk.all; K a g' w h'
theorem TrL.updI {t kt et : TypeId} {td : TypeDesc} [ht : TyMap P t kt et td] {u : Nat} {xs ys : List Int} {m n : Int} {dep : List Nat} (hx : opK S x = some (true, kMapP u)) (hy : opK S y = some (true, kI m)) (hz : opK S z = some (true, kI n)) [hl : LkM M u (cMapI xs ys) dep] [hup : UpM M u (cMapI (xs ++ [m]) (ys ++ [n])) [] M'] (hkey : ∀ q : Int, MapKept.IsKey td (.int .i64 q)) (hnew : m ∉ xs)
    (K : TrL P c ops S M' rest Q) : TrL P c ops S M (⟨none, .mapUpdate t x y z, ty, pos, af, none⟩ :: rest) Q := by
  intro a g w hsat
  obtain ⟨b, cap, hm, he⟩ := opK_holds hsat.slots hx rfl
  have hy' : a.eval y = _ := opK_holds hsat.slots hy rfl
  have hz' : a.eval z = _ := opK_holds hsat.slots hz rfl
  obtain ⟨bk, hm2, h0, _, es, cl, h1, h2, h3⟩ := hsat.conts _ hl.mem
  simp only at hm2 h1
  rw [hm] at hm2; cases hm2
  have hes : ∀ q ∈ es.toList, MapKept.IsKey td q.key := fun q hq => by
    have : q.key ∈ xs.map (Value.int .i64) := by rw [← h2]; exact List.mem_map.2 ⟨q, hq, rfl⟩
    obtain ⟨r, _, hr⟩ := List.mem_map.1 this
    rw [← hr]; exact hkey r
  have hf : Instr.findNow td (.int .i64 m) es.toList 0 = some none := by
    rcases MapKept.findNow_spec (hkey m) es.toList 0 hes with ⟨q, _⟩ | ⟨j, e, _, q2, q3⟩
    · exact q
    · have : e.key ∈ xs.map (Value.int .i64) := by rw [← h2]; exact List.mem_map.2 ⟨e, List.mem_of_getElem? q2, rfl⟩
      obtain ⟨r, hr1, hr2⟩ := List.mem_map.1 this
      rw [q3] at hr2; cases hr2; exact absurd hr1 hnew
  have hr : (Instr.mapUpdate t (.map (some b)) (.int .i64 m) (.int .i64 n)).run P w = .ok () { w with heap := w.heap.setIfInBounds b (.map (es.push { key := .int .i64 m, val := .int .i64 n, born := cl }) (cl + 1)) } := by
    simp [Instr.mapUpdate, run_underlying ht.h, MapKept.run_getObj_map h1, MapKept.run_checkKey ht.k (hkey m) false 9999, MapKept.run_findKey ht.k hf, MapKept.run_setObj_map _ h1, Result.andThen]
  refine wpList_plain rfl fun K' hK' => ?_
  unfold Oper.wp
  simp only [execOp, he, hy', hz', Sem.run_bind, hr, Result.andThen_ok, Sem.run_pure, Oper.upon, Act.put]
  exact hK' _ _ (K a g _ (hsat.updO hm hup ⟨by simp [h0], by simp, _, _, rfl, by simp [h2], by rw [List.map_append, Array.toList_push, List.map_append]; exact allK_append h3 ⟨rfl, trivial⟩⟩ inferInstance (fun _ h => by cases h)))
theorem ok_lookI {t kt et : TypeId} {td : TypeDesc} [ht : TyMap P t kt et td] {u : Nat} {xs ys : List Int} {dep : List Nat} {m n : Int} (hx : opK S x = some (b, kMapP u)) (hb : p = true → b = true) (hy : opK S y = some (b', kI m)) (hb' : p = true → b' = true) [hl : LkM M u (cMapI xs ys) dep] (hkey : ∀ q : Int, MapKept.IsKey td (.int .i64 q))
    (hin : p = true → ∃ i, i < xs.length ∧ nth xs i = m ∧ nth ys i = n ∧ ∀ j, j < i → nth xs j ≠ m) (hnd : p = true → xs.Nodup) : OpOk P c S M ⟨d, .lookup t x y false, ty, pos, af, gd⟩ p (kI n) none :=
  OpOk.pure fun hp a g w _ hc ho => by
    obtain ⟨bl, cap, hm, he⟩ := ho x (by simp [Op.operands]) b _ hx (hb hp)
    have hy' : a.eval y = _ := ho y (by simp [Op.operands]) b' _ hy (hb' hp)
    obtain ⟨bk, hm2, h0, _, es, cl, h1, h2, h3⟩ := hc _ hl.mem
    simp only at hm2 h1
    rw [hm] at hm2; cases hm2
    obtain ⟨i, i1, i2, i3, i4⟩ := hin hp
    have hes : ∀ q ∈ es.toList, MapKept.IsKey td q.key := fun q hq => by
      have : q.key ∈ xs.map (Value.int .i64) := by rw [← h2]; exact List.mem_map.2 ⟨q, hq, rfl⟩
      obtain ⟨r, _, hr⟩ := List.mem_map.1 this
      rw [← hr]; exact hkey r
    have hlen : es.toList.length = xs.length := by have := congrArg List.length h2; simpa using this
    have hk : ∀ (j : Nat) (e : MapEntry), es.toList[j]? = some e → e.key = .int .i64 (nth xs j) ∧ j < xs.length := fun j e hj => by
      have hjl := (List.getElem?_eq_some_iff.1 hj).1
      have : (es.toList.map (·.key))[j]? = some e.key := by rw [List.getElem?_map, hj]; rfl
      rw [h2, List.getElem?_map, nth_get (show j < xs.length by omega)] at this
      simp at this
      exact ⟨this.symm, by omega⟩
    rcases MapKept.findNow_spec (hkey m) es.toList 0 hes with ⟨_, q⟩ | ⟨j, e, q1, q2, q3⟩
    · exfalso
      obtain ⟨e, hei⟩ : ∃ e, es.toList[i]? = some e := ⟨_, List.getElem?_eq_getElem (by omega)⟩
      exact q e (List.mem_of_getElem? hei) (by rw [(hk i e hei).1, i2])
    · obtain ⟨k1, k2⟩ := hk j e q2
      rw [q3] at k1
      have k3 : nth xs j = m := by injection k1 with _ k1; exact k1.symm
      have hji : j = i := by
        have hn := hnd hp
        have := (List.getElem_inj (h₀ := k2) (h₁ := i1) hn).1 (by
          have a1 := nth_get k2; have a2 := nth_get i1
          rw [List.getElem?_eq_getElem k2] at a1; rw [List.getElem?_eq_getElem i1] at a2
          simp at a1 a2; rw [a1, a2, k3, i2])
        exact this
      subst hji
      have hyk : (ys.map fun y => kI y)[j]? = some (kI n) := by rw [List.getElem?_map, nth_get (show j < ys.length by omega), i3]; rfl
      obtain ⟨v, h4, h5⟩ := allK_get h3 hyk
      have hv : v = e.val := by
        rw [List.getElem?_map, q2] at h4
        simpa using h4.symm
      refine ⟨e.val, ?_, hv ▸ h5⟩
      simp [execOp, he, hy', Instr.lookup, run_underlying ht.h, MapKept.run_getObj_map h1, MapKept.run_checkKey ht.k (hkey m) _ 9999, MapKept.run_findKey ht.k q1, Result.andThen]
end
end Go.Fl

/- Contracts: cycles, parts; the law of checks. -/
namespace Go.Fl
open Go Go.Proofs

instance : NB 111 112 := ⟨rfl⟩
set_option maxRecDepth 100000 in
theorem ct_oCycles (p : List Int) : Ct Try.prog 39 [kRd (eL eI) p] (kTup [kRd (eL (eL eI)) (if cycE p = 0 then cycs p p.length else []), kI (cycE p)]) := by
  refine Ct.mk Try.func39 rfl Try.ntmps39 rfl (fun w J => ?_)
  refine Tr.seq ?_
  refine Tr.rg ?_
  refine TrL.op (ok_assign rfl (fun _ => rfl)) rfl rfl ?_
  refine TrL.op (ok_assign rfl (fun _ => rfl)) rfl rfl ?_
  refine TrL.fin ?_
  refine End.nxt ?_
  refine Tr.seq ?_
  refine Tr.seq ?_
  refine Tr.rg ?_
  refine TrL.op (ok_move rfl (fun _ => rfl)) rfl rfl ?_
  refine TrL.op (ok_lenJ rfl (fun _ => rfl)) rfl rfl ?_
  refine TrL.op (ok_gtr rfl (fun _ => rfl) rfl (fun _ => rfl)) rfl rfl ?_
  refine TrL.fin ?_
  refine End.nxt ?_
  refine Tr.cnd rfl ?_ ?_
  · intro h1
    replace h1 := of_decide_eq_true h1
    have hc : cycE p = 8 := if_pos (by omega)
    refine Tr.seq ?_
    refine Tr.rg ?_
    refine TrL.op (ok_assign rfl (fun _ => rfl)) rfl rfl ?_
    refine TrL.op (ok_assign rfl (fun _ => rfl)) rfl rfl ?_
    refine TrL.fin ?_
    refine End.nxt ?_
    refine Tr.ret ?_
    refine Rts.thn ?_
    exact Rts.res (fn := Try.f39) (ts := [2, 3]) rfl rfl (.n rfl (by rw [hc]; rfl) <| .i rfl hc.symm <| .nil)
  · intro h1
    replace h1 := Int.not_lt.1 (of_decide_eq_false h1)
    have hc : cycE p = chkL p p.length := if_neg (by omega)
    refine Tr.skip ?_
    refine End.nxt ?_
    refine Tr.seq ?_
    refine Tr.seq ?_
    refine Tr.rg ?_
    refine TrL.op (ok_move rfl (fun _ => rfl)) rfl rfl ?_
    refine TrL.op (ok_call (fun hp => ct_isPerm _ (by omega)) (.a rfl (fun _ => rfl) <| .nil)) rfl rfl ?_
    refine TrL.op (ok_assign rfl (fun _ => rfl)) rfl rfl ?_
    refine TrL.fin ?_
    refine End.nxt ?_
    refine Tr.seq ?_
    refine Tr.rg ?_
    refine TrL.op (ok_move rfl (fun _ => rfl)) rfl rfl ?_
    refine TrL.op (ok_neq rfl (fun _ => rfl) rfl (fun _ => rfl)) rfl rfl ?_
    refine TrL.fin ?_
    refine End.nxt ?_
    refine Tr.cnd rfl ?_ ?_
    · intro h4
      replace h4 := of_decide_eq_true h4
      refine Tr.seq ?_
      refine Tr.rg ?_
      refine TrL.op (ok_move rfl (fun _ => rfl)) rfl rfl ?_
      refine TrL.op (ok_assign rfl (fun _ => rfl)) rfl rfl ?_
      refine TrL.op (ok_assign rfl (fun _ => rfl)) rfl rfl ?_
      refine TrL.fin ?_
      refine End.nxt ?_
      refine Tr.ret ?_
      refine Rts.thn ?_
      exact Rts.res (fn := Try.f39) (ts := [2, 3]) rfl rfl (.n rfl (by rw [hc, if_neg h4]) <| .i rfl hc.symm <| .nil)
    · intro h4
      replace h4 := Classical.not_not.1 (of_decide_eq_false h4)
      refine Tr.skip ?_
      refine End.nxt ?_
      refine Tr.seq ?_
      refine Tr.rg ?_
      refine TrL.op (ok_move rfl (fun _ => rfl)) rfl rfl ?_
      refine TrL.op (ok_call (fun hp => ct_cycles _ (by omega) (chkL_zero.1 h4).1) (.a rfl (fun _ => rfl) <| .nil)) rfl rfl ?_
      refine TrL.op (ok_assign rfl (fun _ => rfl)) rfl rfl ?_
      refine TrL.op (ok_assign rfl (fun _ => rfl)) rfl rfl ?_
      refine TrL.fin ?_
      refine End.nxt ?_
      refine Tr.ret ?_
      exact Rts.res (fn := Try.f39) (ts := [2, 3]) rfl rfl (.r rfl (by rw [hc, if_pos h4]) <| .i rfl (by rw [hc, h4]) <| .nil)

set_option maxRecDepth 100000 in
theorem ct_oComponents (o : Ori) : Ct Try.prog 34 [kRd eO o] (kTup [kRd (eL (eL eI)) (if chkO o = 0 then comps o o.1.length else []), kI (chkO o)]) := by
  refine Ct.mk Try.func34 rfl Try.ntmps34 rfl (fun w J => ?_)
  refine Tr.seq ?_
  refine Tr.rg ?_
  refine TrL.new (ok_box 1 rfl (fun _ => rfl) rfl) rfl rfl rfl rfl ?_
  refine TrL.op (ok_assign rfl (fun _ => rfl)) rfl rfl ?_
  refine TrL.op (ok_assign rfl (fun _ => rfl)) rfl rfl ?_
  refine TrL.fin ?_
  refine End.nxt ?_
  refine Tr.seq ?_
  refine Tr.seq ?_
  refine Tr.rg ?_
  refine TrL.op (ok_ldBS rfl (fun _ => rfl)) rfl rfl ?_
  refine TrL.op (ok_call (fun hp => ct_oCheck _) (.s rfl (fun _ => rfl) rfl <| .nil)) rfl rfl ?_
  refine TrL.op (ok_assign rfl (fun _ => rfl)) rfl rfl ?_
  refine TrL.fin ?_
  refine End.nxt ?_
  refine Tr.seq ?_
  refine Tr.rg ?_
  refine TrL.op (ok_move rfl (fun _ => rfl)) rfl rfl ?_
  refine TrL.op (ok_neq rfl (fun _ => rfl) rfl (fun _ => rfl)) rfl rfl ?_
  refine TrL.fin ?_
  refine End.nxt ?_
  refine Tr.cnd rfl ?_ ?_
  · intro h2
    replace h2 := of_decide_eq_true h2
    refine Tr.seq ?_
    refine Tr.rg ?_
    refine TrL.op (ok_move rfl (fun _ => rfl)) rfl rfl ?_
    refine TrL.op (ok_assign rfl (fun _ => rfl)) rfl rfl ?_
    refine TrL.op (ok_assign rfl (fun _ => rfl)) rfl rfl ?_
    refine TrL.fin ?_
    refine End.nxt ?_
    refine Tr.ret ?_
    refine Rts.thn ?_
    exact Rts.res (fn := Try.f34) (ts := [2, 3]) rfl rfl (.n rfl (by rw [if_neg h2]) <| .i rfl (by first | rfl | omega | (simp; done) | (simp; omega) | assumption) <| .nil)
  · intro h2
    replace h2 := Classical.not_not.1 (of_decide_eq_false h2)
    have v : Valid o := valid_of h2
    refine Tr.skip ?_
    refine End.nxt ?_
    refine Tr.seq ?_
    refine Tr.rg ?_
    refine TrL.op (ok_ldBS rfl (fun _ => rfl)) rfl rfl ?_
    refine TrL.op (ok_call (fun hp => ct_components _ v) (.s rfl (fun _ => rfl) rfl <| .nil)) rfl rfl ?_
    refine TrL.op (ok_assign rfl (fun _ => rfl)) rfl rfl ?_
    refine TrL.op (ok_assign rfl (fun _ => rfl)) rfl rfl ?_
    refine TrL.fin ?_
    refine End.nxt ?_
    refine Tr.ret ?_
    exact Rts.res (fn := Try.f34) (ts := [2, 3]) rfl rfl (.r rfl (by rw [if_pos h2]) <| .i rfl h2.symm <| .nil)

set_option maxRecDepth 100000 in
set_option maxHeartbeats 1000000 in
theorem ct_oPart (o : Ori) (i : Int) : Ct Try.prog 35 [kRd eO o, kI i] (kTup [kRd eO (partR o i), kI (partE o i)]) := by
  refine Ct.mk Try.func35 rfl Try.ntmps35 rfl (fun w J => ?_)
  refine Tr.seq ?_
  refine Tr.rg ?_
  refine TrL.new (ok_box 2 rfl (fun _ => rfl) rfl) rfl rfl rfl rfl ?_
  refine TrL.new (ok_alloc 4) rfl rfl rfl rfl ?_
  refine TrL.op (ok_assign rfl (fun _ => rfl)) rfl rfl ?_
  refine TrL.fin ?_
  refine End.nxt ?_
  refine Tr.seq ?_
  refine Tr.seq ?_
  refine Tr.rg ?_
  refine TrL.op (ok_ldBS rfl (fun _ => rfl)) rfl rfl ?_
  refine TrL.op (ok_call (fun hp => ct_oCheck _) (.s rfl (fun _ => rfl) rfl <| .nil)) rfl rfl ?_
  refine TrL.op (ok_assign rfl (fun _ => rfl)) rfl rfl ?_
  refine TrL.fin ?_
  refine End.nxt ?_
  refine Tr.seq ?_
  refine Tr.rg ?_
  refine TrL.op (ok_move rfl (fun _ => rfl)) rfl rfl ?_
  refine TrL.op (ok_neq rfl (fun _ => rfl) rfl (fun _ => rfl)) rfl rfl ?_
  refine TrL.fin ?_
  refine End.nxt ?_
  refine Tr.cnd rfl ?_ ?_
  · intro h2
    replace h2 := of_decide_eq_true h2
    have he : partE o i = chkO o := orE_l h2
    refine Tr.seq ?_
    refine Tr.rg ?_
    refine TrL.op (ok_build (fun hp => .nil)) rfl rfl ?_
    refine TrL.op (ok_move rfl (fun _ => rfl)) rfl rfl ?_
    refine TrL.stB rfl rfl rfl rfl ?_
    refine TrL.op (ok_assign rfl (fun _ => rfl)) rfl rfl ?_
    refine TrL.fin ?_
    refine End.nxt ?_
    refine Tr.ret ?_
    refine Rts.thn ?_
    exact Rts.resC (fn := Try.f35) (ts := [5]) rfl rfl rfl (aggRd rfl (by unfold partR; rw [he, if_neg h2])) (.i rfl he.symm <| .nil)
  · intro h2
    replace h2 := Classical.not_not.1 (of_decide_eq_false h2)
    have v : Valid o := valid_of h2
    have hv0 := v.pos
    have hv1 := v.len
    have hv2 := v.le
    have he : partE o i = if 0 ≤ i ∧ i < (comps o o.1.length).length then 0 else 6 := orE_r h2
    refine Tr.skip ?_
    refine End.nxt ?_
    refine Tr.seq ?_
    refine Tr.rg ?_
    refine TrL.op (ok_ldBS rfl (fun _ => rfl)) rfl rfl ?_
    refine TrL.op (ok_call (fun hp => ct_components _ v) (.s rfl (fun _ => rfl) rfl <| .nil)) rfl rfl ?_
    refine TrL.op (ok_assign rfl (fun _ => rfl)) rfl rfl ?_
    refine TrL.fin ?_
    refine End.nxt ?_
    refine Tr.seq ?_
    refine Tr.seq ?_
    refine Tr.rg ?_
    refine TrL.op (ok_move rfl (fun _ => rfl)) rfl rfl ?_
    refine TrL.op (ok_lss rfl (fun _ => rfl) rfl (fun _ => rfl)) rfl rfl ?_
    refine TrL.op (ok_move rfl (fun _ => rfl)) rfl rfl ?_
    refine TrL.gd rfl rfl rfl (ok_move rfl (fun _ => rfl)) rfl rfl ?_
    refine TrL.gd rfl rfl rfl (ok_move rfl (fun _ => rfl)) rfl rfl ?_
    refine TrL.gd rfl rfl rfl (ok_lenJ rfl id) rfl rfl ?_
    refine TrL.gd rfl rfl rfl (ok_geq rfl id rfl id) rfl rfl ?_
    refine TrL.op (ok_or rfl (fun _ => rfl) rfl (fun hp h => gdF2 ((fun _ => rfl) hp) h)) rfl rfl ?_
    refine TrL.fin ?_
    refine End.nxt ?_
    refine Tr.cnd rfl ?_ ?_
    · intro h5
      try simp only [decide_eq_true_eq, Bool.or_eq_true] at h5
      rw [if_neg (by omega)] at he
      refine Tr.seq ?_
      refine Tr.rg ?_
      refine TrL.op (ok_build (fun hp => .nil)) rfl rfl ?_
      refine TrL.stB rfl rfl rfl rfl ?_
      refine TrL.op (ok_assign rfl (fun _ => rfl)) rfl rfl ?_
      refine TrL.fin ?_
      refine End.nxt ?_
      refine Tr.ret ?_
      refine Rts.thn ?_
      exact Rts.resC (fn := Try.f35) (ts := [5]) rfl rfl rfl (aggRd rfl (by unfold partR; rw [he]; rfl)) (.i rfl he.symm <| .nil)
    · intro h5
      try simp only [decide_eq_false_iff_not, Bool.or_eq_false_iff, Int.not_lt, Int.not_le] at h5
      rw [if_pos (by omega)] at he
      have hic := isComp v (nth_mem (xs := comps o o.1.length) (i := i.toNat) (by omega))
      have hcl := hic.len
      refine Tr.skip ?_
      refine End.nxt ?_
      refine Tr.seq ?_
      refine Tr.rg ?_
      refine TrL.new (ok_makeMap 31) rfl rfl rfl rfl ?_
      refine TrL.op (ok_assign rfl (fun _ => rfl)) rfl rfl ?_
      refine TrL.fin ?_
      refine End.nxt ?_
      refine Tr.seq ?_
      refine Tr.seq ?_
      refine Tr.rg ?_
      refine TrL.op (ok_move rfl (fun _ => rfl)) rfl rfl ?_
      refine TrL.op (ok_move rfl (fun _ => rfl)) rfl rfl ?_
      refine TrL.op (ok_idxP rfl (fun _ => rfl) rfl (fun _ => rfl) rfl (fun _ => by omega)) rfl rfl ?_
      refine TrL.op (ok_ldP rfl (fun _ => rfl) rfl) rfl rfl ?_
      refine TrL.op (ok_lenJ rfl (fun _ => rfl)) rfl rfl ?_
      refine TrL.op (ok_move rfl (fun _ => rfl)) rfl rfl ?_
      refine TrL.fin ?_
      refine End.nxt ?_
      refine Tr.for1 (σ := Nat) [⟨1, true, _, _⟩, ⟨2, true, _, _⟩, ⟨4, true, _, _⟩, ⟨7, true, _, _⟩, ⟨8, true, _, _⟩, ⟨35, true, _, _⟩, ⟨36, true, _, _⟩] [⟨2, _, _⟩, ⟨4, _, _⟩] (fun k => [⟨37, true, [], kI (k : Int)⟩]) (fun k => [⟨31, [], cMapI ((nth (comps o o.1.length) i.toNat).take k) (sqs k)⟩]) (fun k => k ≤ (nth (comps o o.1.length) i.toNat).length) (fun k => k = (nth (comps o o.1.length) i.toNat).length) (fun k => (nth (comps o o.1.length) i.toNat).length - k) (0) (Nat.zero_le _) (Ent.mk (.i rfl (by first | rfl | omega | (simp; done) | (simp; omega) | assumption) <| .k rfl rfl <| .k rfl rfl <| .k rfl rfl <| .k rfl rfl <| .k rfl rfl <| .k rfl rfl <| .k rfl rfl <| .nil) (.conv (fun _ _ _ h => ⟨rfl, h⟩) rfl <| .k rfl <| .k rfl <| .nil) rfl) ?_ ?_
      · intro k hR0
        refine Tr.norm (S' := [⟨37, true, _, _⟩, ⟨1, true, _, _⟩, ⟨2, true, _, _⟩, ⟨4, true, _, _⟩, ⟨7, true, _, _⟩, ⟨8, true, _, _⟩, ⟨35, true, _, _⟩, ⟨36, true, _, _⟩]) (M' := [⟨31, _, _⟩, ⟨2, _, _⟩, ⟨4, _, _⟩]) rfl rfl ?_
        have hcm := fun (h : k < (nth (comps o o.1.length) i.toNat).length) => nth_mem (xs := (nth (comps o o.1.length) i.toNat)) h
        refine Tr.seq ?_
        refine Tr.rg ?_
        refine TrL.op (ok_lss rfl (fun _ => rfl) rfl (fun _ => rfl)) rfl rfl ?_
        refine TrL.fin ?_
        refine End.nxt ?_
        refine Tr.seq ?_
        refine Tr.cnd rfl ?_ ?_
        · intro h9
          replace h9 := of_decide_eq_true h9
          refine Tr.skip ?_
          refine End.nxt ?_
          refine Tr.seq ?_
          refine Tr.blk ?_
          refine Tr.seq ?_
          refine Tr.rg ?_
          refine TrL.op (ok_move rfl (fun _ => rfl)) rfl rfl ?_
          first | refine TrL.op (ok_idxN rfl (fun _ => rfl) rfl (fun _ => rfl) rfl (fun _ => by omega)) rfl rfl ?_ | refine TrL.op (ok_idxP rfl (fun _ => rfl) rfl (fun _ => rfl) rfl (fun _ => by omega)) rfl rfl ?_
          refine TrL.op (ok_ldP rfl (fun _ => rfl) rfl) rfl rfl ?_
          refine TrL.op (ok_assign rfl (fun _ => rfl)) rfl rfl ?_
          refine TrL.op (ok_assign rfl (fun _ => rfl)) rfl rfl ?_
          refine TrL.fin ?_
          refine End.nxt ?_
          refine Tr.rg ?_
          have hcm1 := hcm (by omega)
          have hcq := hic.sq _ hcm1
          have hcq0 := hcq.1
          have hcq1 := hcq.2
          have hcR := hic.R _ hcm1
          have hcU := hic.U _ hcm1
          refine TrL.op (ok_move rfl (fun _ => rfl)) rfl rfl ?_
          refine TrL.op (ok_move rfl (fun _ => rfl)) rfl rfl ?_
          refine TrL.op (ok_move rfl (fun _ => rfl)) rfl rfl ?_
          refine TrL.updI rfl rfl rfl (fun q => by simp [MapKept.IsKey]) (take_new hic.nd (by omega)) ?_
          refine TrL.fin ?_
          refine End.blk ?_
          refine End.nxt ?_
          refine Tr.rg ?_
          refine TrL.op (ok_add rfl (fun _ => rfl) rfl (fun _ => rfl) (fun _ => by omega)) rfl rfl ?_
          refine TrL.op (ok_move rfl (fun _ => rfl)) rfl rfl ?_
          refine TrL.fin ?_
          exact End.lp (k + 1) (by first | rfl | omega | (simp; done) | (simp; omega) | assumption) (by omega) (Ent.mk (.i rfl (by first | rfl | omega | (simp; done) | (simp; omega) | assumption) <| .k rfl rfl <| .k rfl rfl <| .k rfl rfl <| .k rfl rfl <| .k rfl rfl <| .k rfl rfl <| .k rfl rfl <| .nil) (.e (by rw [take_succ_nth (by omega), sqs_succ]) rfl <| .k rfl <| .k rfl <| .nil) rfl)
        · intro h9
          replace h9 := Int.not_lt.1 (of_decide_eq_false h9)
          refine Tr.exit ?_
          refine Exs.thn ?_
          refine Exs.thn ?_
          refine Exs.here ?_
          exact End.cut (k) (by omega) (Ent.mk (.i rfl (by first | rfl | omega | (simp; done) | (simp; omega) | assumption) <| .k rfl rfl <| .k rfl rfl <| .k rfl rfl <| .k rfl rfl <| .k rfl rfl <| .k rfl rfl <| .k rfl rfl <| .nil) (.k rfl <| .k rfl <| .k rfl <| .nil) rfl)
      · rintro _ rfl
        refine End.norm (S' := [⟨37, true, _, _⟩, ⟨1, true, _, _⟩, ⟨2, true, _, _⟩, ⟨4, true, _, _⟩, ⟨7, true, _, _⟩, ⟨8, true, _, _⟩, ⟨35, true, _, _⟩, ⟨36, true, _, _⟩]) (M' := [⟨31, _, _⟩, ⟨2, _, _⟩, ⟨4, _, _⟩]) rfl rfl ?_
        refine End.nxt ?_
        refine Tr.seq ?_
        refine Tr.rg ?_
        refine TrL.new (ok_alloc 11) rfl rfl rfl rfl ?_
        refine TrL.fin ?_
        refine End.nxt ?_
        refine Tr.seq ?_
        refine Tr.seq ?_
        refine Tr.rg ?_
        refine TrL.op (ok_move rfl (fun _ => rfl)) rfl rfl ?_
        refine TrL.op (ok_move rfl (fun _ => rfl)) rfl rfl ?_
        refine TrL.op (ok_idxP rfl (fun _ => rfl) rfl (fun _ => rfl) rfl (fun _ => by omega)) rfl rfl ?_
        refine TrL.op (ok_ldP rfl (fun _ => rfl) rfl) rfl rfl ?_
        refine TrL.op (ok_lenJ rfl (fun _ => rfl)) rfl rfl ?_
        refine TrL.op (ok_move rfl (fun _ => rfl)) rfl rfl ?_
        refine TrL.fin ?_
        refine End.nxt ?_
        refine Tr.growC 11 0 111 rfl (ks' := [kOsl 111 0, _]) rfl rfl 3 eI rfl (.cons inferInstance rfl <| .cons inferInstance rfl <| inferInstance) ?_
        refine Tr.growC 11 1 112 rfl (ks' := [_, kOsl 112 0]) rfl rfl 3 eI rfl (.cons inferInstance rfl <| .cons inferInstance rfl <| inferInstance) ?_
        refine Tr.for1 (σ := Nat) [⟨2, true, _, _⟩, ⟨4, true, _, _⟩, ⟨8, true, _, _⟩, ⟨11, true, _, _⟩, ⟨49, true, _, _⟩, ⟨50, true, _, _⟩] [⟨2, _, _⟩, ⟨4, _, _⟩, ⟨31, _, _⟩] (fun k => [⟨51, true, [], kI (k : Int)⟩]) (fun k => [⟨111, [], cArr true 3 eI (tab k (partF o.1 (nth (comps o o.1.length) i.toNat))) k⟩, ⟨112, [], cArr true 3 eI (tab k (partF o.2 (nth (comps o o.1.length) i.toNat))) k⟩, ⟨11, [111, 112], cBlk [kOsl 111 k, kOsl 112 k]⟩]) (fun k => k ≤ (nth (comps o o.1.length) i.toNat).length) (fun k => k = (nth (comps o o.1.length) i.toNat).length) (fun k => (nth (comps o o.1.length) i.toNat).length - k) (0) (Nat.zero_le _) (Ent.mk (.i rfl (by first | rfl | omega | (simp; done) | (simp; omega) | assumption) <| .k rfl rfl <| .k rfl rfl <| .k rfl rfl <| .k rfl rfl <| .k rfl rfl <| .k rfl rfl <| .nil) (.a (by rfl) (by first | rfl | omega | (simp; done) | (simp; omega) | assumption) <| .a (by rfl) (by first | rfl | omega | (simp; done) | (simp; omega) | assumption) <| .e (by rfl) rfl <| .k rfl <| .k rfl <| .k rfl <| .nil) rfl) ?_ ?_
        · intro k hR1
          refine Tr.norm (S' := [⟨51, true, _, _⟩, ⟨2, true, _, _⟩, ⟨4, true, _, _⟩, ⟨8, true, _, _⟩, ⟨11, true, _, _⟩, ⟨49, true, _, _⟩, ⟨50, true, _, _⟩]) (M' := [⟨111, _, _⟩, ⟨112, _, _⟩, ⟨11, _, _⟩, ⟨2, _, _⟩, ⟨4, _, _⟩, ⟨31, _, _⟩]) rfl rfl ?_
          have hcm := fun (h : k < (nth (comps o o.1.length) i.toNat).length) => nth_mem (xs := (nth (comps o o.1.length) i.toNat)) h
          refine Tr.seq ?_
          refine Tr.rg ?_
          refine TrL.op (ok_lss rfl (fun _ => rfl) rfl (fun _ => rfl)) rfl rfl ?_
          refine TrL.fin ?_
          refine End.nxt ?_
          refine Tr.seq ?_
          refine Tr.cnd rfl ?_ ?_
          · intro h15
            replace h15 := of_decide_eq_true h15
            refine Tr.skip ?_
            refine End.nxt ?_
            refine Tr.seq ?_
            refine Tr.blk ?_
            refine Tr.seq ?_
            refine Tr.rg ?_
            first | refine TrL.op (ok_idxN rfl (fun _ => rfl) rfl (fun _ => rfl) rfl (fun _ => by omega)) rfl rfl ?_ | refine TrL.op (ok_idxP rfl (fun _ => rfl) rfl (fun _ => rfl) rfl (fun _ => by omega)) rfl rfl ?_
            refine TrL.op (ok_ldP rfl (fun _ => rfl) rfl) rfl rfl ?_
            refine TrL.op (ok_assign rfl (fun _ => rfl)) rfl rfl ?_
            refine TrL.fin ?_
            refine End.nxt ?_
            refine Tr.seq ?_
            refine Tr.draw 10 mixed (by kernel_rfl) ?_
            have hcm1 := hcm (by omega)
            have hcq := hic.sq _ hcm1
            have hcq0 := hcq.1
            have hcq1 := hcq.2
            have hcR := hic.R _ hcm1
            have hcU := hic.U _ hcm1
            refine RunD.op (ok_fldO rfl (fun _ => rfl)) rfl rfl ?_
            refine RunD.op (ok_ldB rfl (fun _ => rfl) rfl) rfl rfl ?_
            refine RunD.op (ok_move rfl (fun _ => rfl)) rfl rfl ?_
            refine RunD.op (ok_fldO rfl (fun _ => rfl)) rfl rfl ?_
            refine RunD.op (ok_ldB rfl (fun _ => rfl) rfl) rfl rfl ?_
            refine RunD.op (ok_move rfl (fun _ => rfl)) rfl rfl ?_
            first | refine RunD.op (ok_idxN rfl (fun _ => rfl) rfl (fun _ => rfl) rfl (fun _ => by omega)) rfl rfl ?_ | refine RunD.op (ok_idxP rfl (fun _ => rfl) rfl (fun _ => rfl) rfl (fun _ => by omega)) rfl rfl ?_
            refine RunD.op (ok_ldP rfl (fun _ => rfl) rfl) rfl rfl ?_
            refine RunD.op (ok_lookI (n := partF o.1 (nth (comps o o.1.length) i.toNat) k) rfl (fun _ => rfl) rfl (fun _ => rfl) (fun q => by simp [MapKept.IsKey]) (fun _ => by rw [List.take_length]; exact look_at hic.nd hcR) (fun _ => by rw [List.take_length]; exact hic.nd)) rfl rfl ?_
            refine RunD.new (ok_bsl eI 64 (fun hp => .cons rfl <| .nil) rfl rfl rfl rfl) rfl rfl rfl rfl ?_
            refine RunD.z ?_
            refine TrL.wkC 11 (.any <| .k <| .nil) rfl ?_
            refine TrL.app rfl rfl rfl rfl rfl rfl rfl rfl (by first | omega | (simp only [List.length_cons, List.length_nil]; omega)) (by first | omega | (simp only [List.length_cons, List.length_nil]; omega)) ?_
            refine TrL.norm (S' := [⟨_, _, _, _⟩, ⟨_, _, _, _⟩, ⟨_, _, _, _⟩, ⟨_, _, _, _⟩, ⟨_, _, _, _⟩, ⟨_, _, _, _⟩, ⟨_, _, _, _⟩, ⟨_, _, _, _⟩, ⟨_, _, _, _⟩, ⟨_, _, _, _⟩, ⟨_, _, _, _⟩, ⟨_, _, _, _⟩, ⟨_, _, _, _⟩, ⟨_, _, _, _⟩, ⟨_, _, _, _⟩, ⟨_, _, _, _⟩, ⟨_, _, _, _⟩, ⟨_, _, _, _⟩, ⟨_, _, _, _⟩, ⟨_, _, _, _⟩, ⟨_, _, _, _⟩, ⟨_, _, _, _⟩]) rfl rfl ?_
            refine TrL.op (ok_fldO rfl (fun _ => rfl)) rfl rfl ?_
            refine TrL.stB rfl rfl rfl rfl ?_
            refine TrL.fin ?_
            refine End.nxt ?_
            refine Tr.draw 10 mixed (by kernel_rfl) ?_
            refine RunD.op (ok_fldO rfl (fun _ => rfl)) rfl rfl ?_
            refine RunD.op (ok_ldB rfl (fun _ => rfl) rfl) rfl rfl ?_
            refine RunD.op (ok_move rfl (fun _ => rfl)) rfl rfl ?_
            refine RunD.op (ok_fldO rfl (fun _ => rfl)) rfl rfl ?_
            refine RunD.op (ok_ldB rfl (fun _ => rfl) rfl) rfl rfl ?_
            refine RunD.op (ok_move rfl (fun _ => rfl)) rfl rfl ?_
            first | refine RunD.op (ok_idxN rfl (fun _ => rfl) rfl (fun _ => rfl) rfl (fun _ => by omega)) rfl rfl ?_ | refine RunD.op (ok_idxP rfl (fun _ => rfl) rfl (fun _ => rfl) rfl (fun _ => by omega)) rfl rfl ?_
            refine RunD.op (ok_ldP rfl (fun _ => rfl) rfl) rfl rfl ?_
            refine RunD.op (ok_lookI (n := partF o.2 (nth (comps o o.1.length) i.toNat) k) rfl (fun _ => rfl) rfl (fun _ => rfl) (fun q => by simp [MapKept.IsKey]) (fun _ => by rw [List.take_length]; exact look_at hic.nd hcU) (fun _ => by rw [List.take_length]; exact hic.nd)) rfl rfl ?_
            refine RunD.new (ok_bsl eI 76 (fun hp => .cons rfl <| .nil) rfl rfl rfl rfl) rfl rfl rfl rfl ?_
            refine RunD.z ?_
            refine TrL.wkC 11 (.k <| .any <| .nil) rfl ?_
            refine TrL.app rfl rfl rfl rfl rfl rfl rfl rfl (by first | omega | (simp only [List.length_cons, List.length_nil]; omega)) (by first | omega | (simp only [List.length_cons, List.length_nil]; omega)) ?_
            refine TrL.norm (S' := ⟨_, _, _, _⟩ :: ⟨_, _, _, _⟩ :: ⟨_, _, _, _⟩ :: ⟨_, _, _, _⟩ :: ⟨_, _, _, _⟩ :: ⟨_, _, _, _⟩ :: ⟨_, _, _, _⟩ :: ⟨_, _, _, _⟩ :: ⟨_, _, _, _⟩ :: ⟨_, _, _, _⟩ :: ⟨_, _, _, _⟩ :: ⟨_, _, _, _⟩ :: ⟨_, _, _, _⟩ :: ⟨_, _, _, _⟩ :: ⟨_, _, _, _⟩ :: ⟨_, _, _, _⟩ :: ⟨_, _, _, _⟩ :: ⟨_, _, _, _⟩ :: ⟨_, _, _, _⟩ :: ⟨_, _, _, _⟩ :: ⟨_, _, _, _⟩ :: ⟨_, _, _, _⟩ :: ⟨_, _, _, _⟩ :: ⟨_, _, _, _⟩ :: ⟨_, _, _, _⟩ :: ⟨_, _, _, _⟩ :: ⟨_, _, _, _⟩ :: ⟨_, _, _, _⟩ :: ⟨_, _, _, _⟩ :: ⟨_, _, _, _⟩ :: ⟨_, _, _, _⟩ :: ⟨_, _, _, _⟩ :: ⟨_, _, _, _⟩ :: ⟨_, _, _, _⟩ :: []) rfl rfl ?_
            refine TrL.op (ok_fldO rfl (fun _ => rfl)) rfl rfl ?_
            refine TrL.stB rfl rfl rfl rfl ?_
            refine TrL.fin ?_
            refine End.blk ?_
            refine End.nxt ?_
            refine Tr.rg ?_
            refine TrL.op (ok_add rfl (fun _ => rfl) rfl (fun _ => rfl) (fun _ => by omega)) rfl rfl ?_
            refine TrL.op (ok_move rfl (fun _ => rfl)) rfl rfl ?_
            refine TrL.fin ?_
            exact End.lp (k + 1) (by first | rfl | omega | (simp; done) | (simp; omega) | assumption) (by omega) (Ent.mk (.i rfl (by first | rfl | omega | (simp; done) | (simp; omega) | assumption) <| .k rfl rfl <| .k rfl rfl <| .k rfl rfl <| .k rfl rfl <| .k rfl rfl <| .k rfl rfl <| .nil) (.a tab_succ.symm (by first | rfl | omega | (simp; done) | (simp; omega) | assumption) <| .a tab_succ.symm (by first | rfl | omega | (simp; done) | (simp; omega) | assumption) <| .e (by rfl) rfl <| .k rfl <| .k rfl <| .k rfl <| .nil) rfl)
          · intro h15
            replace h15 := Int.not_lt.1 (of_decide_eq_false h15)
            refine Tr.exit ?_
            refine Exs.thn ?_
            refine Exs.thn ?_
            refine Exs.here ?_
            exact End.cut (k) (by omega) (Ent.mk (.i rfl (by first | rfl | omega | (simp; done) | (simp; omega) | assumption) <| .k rfl rfl <| .k rfl rfl <| .k rfl rfl <| .k rfl rfl <| .k rfl rfl <| .k rfl rfl <| .nil) (.a (by first | rfl | omega | (simp; done) | (simp; omega) | assumption) (by first | rfl | omega | (simp; done) | (simp; omega) | assumption) <| .a (by first | rfl | omega | (simp; done) | (simp; omega) | assumption) (by first | rfl | omega | (simp; done) | (simp; omega) | assumption) <| .k rfl <| .k rfl <| .k rfl <| .k rfl <| .nil) rfl)
        · rintro _ rfl
          refine End.norm (S' := [⟨51, true, _, _⟩, ⟨2, true, _, _⟩, ⟨4, true, _, _⟩, ⟨8, true, _, _⟩, ⟨11, true, _, _⟩, ⟨49, true, _, _⟩, ⟨50, true, _, _⟩]) (M' := [⟨111, _, _⟩, ⟨112, _, _⟩, ⟨11, _, _⟩, ⟨2, _, _⟩, ⟨4, _, _⟩, ⟨31, _, _⟩]) rfl rfl ?_
          refine End.nxt ?_
          refine Tr.seq ?_
          refine Tr.rg ?_
          refine TrL.op (ok_ldBS rfl (fun _ => rfl)) rfl rfl ?_
          refine TrL.stB rfl rfl rfl rfl ?_
          refine TrL.op (ok_assign rfl (fun _ => rfl)) rfl rfl ?_
          refine TrL.fin ?_
          refine End.nxt ?_
          refine Tr.ent (S' := [⟨4, true, _, _⟩, ⟨5, true, _, _⟩]) (M' := [⟨4, _, _⟩, ⟨111, _, _⟩, ⟨112, _, _⟩]) (Ent.mk (.k rfl rfl <| .k rfl rfl <| .nil) (.k rfl <| .k rfl <| .k rfl <| .nil) rfl) ?_
          refine Tr.frzC 111 4 (by simp only [lenMax]; omega) rfl rfl ?_
          refine Tr.frzC 112 4 (by simp only [lenMax]; omega) rfl rfl ?_
          refine Tr.ret ?_
          exact Rts.resC (fn := Try.f35) (ts := [5]) rfl rfl rfl (aggRd rfl (by unfold partR; rw [he]; rfl)) (.i rfl he.symm <| .nil)

set_option maxRecDepth 100000 in
set_option maxHeartbeats 1000000 in
theorem ct_rPart (o : Ori) (i : Int) (v : Valid o) (h0 : 0 ≤ i) (h1 : i < (comps o o.1.length).length) : Ct Try.prog 38 [kRd eO o, kI i] (kRd eO (partO o (nth (comps o o.1.length) i.toNat))) := by
  have hv0 := v.pos
  have hv1 := v.len
  have hv2 := v.le
  have hic := isComp v (nth_mem (xs := comps o o.1.length) (i := i.toNat) (by omega))
  have hcl := hic.len
  refine Ct.mk Try.func38 rfl Try.ntmps38 rfl (fun w J => ?_)
  refine Tr.seq ?_
  refine Tr.rg ?_
  refine TrL.new (ok_box 2 rfl (fun _ => rfl) rfl) rfl rfl rfl rfl ?_
  refine TrL.new (ok_alloc 4) rfl rfl rfl rfl ?_
  refine TrL.fin ?_
  refine End.nxt ?_
  refine Tr.seq ?_
  refine Tr.rg ?_
  refine TrL.op (ok_ldBS rfl (fun _ => rfl)) rfl rfl ?_
  refine TrL.op (ok_call (fun hp => ct_rComponents _ v) (.s rfl (fun _ => rfl) rfl <| .nil)) rfl rfl ?_
  refine TrL.op (ok_move rfl (fun _ => rfl)) rfl rfl ?_
  refine TrL.op (ok_idxP rfl (fun _ => rfl) rfl (fun _ => rfl) rfl (fun _ => by omega)) rfl rfl ?_
  refine TrL.op (ok_ldP rfl (fun _ => rfl) rfl) rfl rfl ?_
  refine TrL.op (ok_assign rfl (fun _ => rfl)) rfl rfl ?_
  refine TrL.fin ?_
  refine End.nxt ?_
  refine Tr.seq ?_
  refine Tr.rg ?_
  refine TrL.new (ok_alloc 6) rfl rfl rfl rfl ?_
  refine TrL.fin ?_
  refine End.nxt ?_
  refine Tr.seq ?_
  refine Tr.seq ?_
  refine Tr.rg ?_
  refine TrL.op (ok_assign rfl (fun _ => rfl)) rfl rfl ?_
  refine TrL.fin ?_
  refine End.nxt ?_
  refine Tr.growC 6 0 111 rfl (ks' := [kOsl 111 0, _]) rfl rfl 3 eI rfl (.cons inferInstance rfl <| .cons inferInstance rfl <| inferInstance) ?_
  refine Tr.growC 6 1 112 rfl (ks' := [_, kOsl 112 0]) rfl rfl 3 eI rfl (.cons inferInstance rfl <| .cons inferInstance rfl <| inferInstance) ?_
  refine Tr.for1 (σ := Nat) [⟨2, true, _, _⟩, ⟨4, true, _, _⟩, ⟨5, true, _, _⟩, ⟨6, true, _, _⟩] [⟨2, _, _⟩, ⟨4, _, _⟩] (fun k => [⟨7, true, [], kI (k : Int)⟩]) (fun k => [⟨111, [], cArr true 3 eI (tab k (partF o.1 (nth (comps o o.1.length) i.toNat))) k⟩, ⟨112, [], cArr true 3 eI (tab k (partF o.2 (nth (comps o o.1.length) i.toNat))) k⟩, ⟨6, [111, 112], cBlk [kOsl 111 k, kOsl 112 k]⟩]) (fun k => k ≤ (nth (comps o o.1.length) i.toNat).length) (fun k => k = (nth (comps o o.1.length) i.toNat).length) (fun k => (nth (comps o o.1.length) i.toNat).length - k) (0) (Nat.zero_le _) (Ent.mk (.i rfl (by first | rfl | omega | (simp; done) | (simp; omega) | assumption) <| .k rfl rfl <| .k rfl rfl <| .k rfl rfl <| .k rfl rfl <| .nil) (.a (by rfl) (by first | rfl | omega | (simp; done) | (simp; omega) | assumption) <| .a (by rfl) (by first | rfl | omega | (simp; done) | (simp; omega) | assumption) <| .e (by rfl) rfl <| .k rfl <| .k rfl <| .nil) rfl) ?_ ?_
  · intro k hR0
    refine Tr.norm (S' := [⟨7, true, _, _⟩, ⟨2, true, _, _⟩, ⟨4, true, _, _⟩, ⟨5, true, _, _⟩, ⟨6, true, _, _⟩]) (M' := [⟨111, _, _⟩, ⟨112, _, _⟩, ⟨6, _, _⟩, ⟨2, _, _⟩, ⟨4, _, _⟩]) rfl rfl ?_
    have hcm := fun (h : k < (nth (comps o o.1.length) i.toNat).length) => nth_mem (xs := (nth (comps o o.1.length) i.toNat)) h
    refine Tr.seq ?_
    refine Tr.seq ?_
    refine Tr.rg ?_
    refine TrL.op (ok_move rfl (fun _ => rfl)) rfl rfl ?_
    refine TrL.op (ok_move rfl (fun _ => rfl)) rfl rfl ?_
    refine TrL.op (ok_lenJ rfl (fun _ => rfl)) rfl rfl ?_
    refine TrL.op (ok_lss rfl (fun _ => rfl) rfl (fun _ => rfl)) rfl rfl ?_
    refine TrL.fin ?_
    refine End.nxt ?_
    refine Tr.cnd rfl ?_ ?_
    · intro h4
      replace h4 := of_decide_eq_true h4
      refine Tr.skip ?_
      refine End.nxt ?_
      refine Tr.seq ?_
      refine Tr.blk ?_
      refine Tr.seq ?_
      refine Tr.draw 13 mixed (by kernel_rfl) ?_
      have hcm1 := hcm (by omega)
      have hcq := hic.sq _ hcm1
      have hcq0 := hcq.1
      have hcq1 := hcq.2
      have hcR := hic.R _ hcm1
      have hcU := hic.U _ hcm1
      refine RunD.op (ok_fldO rfl (fun _ => rfl)) rfl rfl ?_
      refine RunD.op (ok_ldB rfl (fun _ => rfl) rfl) rfl rfl ?_
      refine RunD.op (ok_move rfl (fun _ => rfl)) rfl rfl ?_
      refine RunD.op (ok_fldO rfl (fun _ => rfl)) rfl rfl ?_
      refine RunD.op (ok_ldB rfl (fun _ => rfl) rfl) rfl rfl ?_
      refine RunD.op (ok_move rfl (fun _ => rfl)) rfl rfl ?_
      refine RunD.op (ok_move rfl (fun _ => rfl)) rfl rfl ?_
      first | refine RunD.op (ok_idxN rfl (fun _ => rfl) rfl (fun _ => rfl) rfl (fun _ => by omega)) rfl rfl ?_ | refine RunD.op (ok_idxP rfl (fun _ => rfl) rfl (fun _ => rfl) rfl (fun _ => by omega)) rfl rfl ?_
      refine RunD.op (ok_ldP rfl (fun _ => rfl) rfl) rfl rfl ?_
      first | refine RunD.op (ok_idxN rfl (fun _ => rfl) rfl (fun _ => rfl) rfl (fun _ => by omega)) rfl rfl ?_ | refine RunD.op (ok_idxP rfl (fun _ => rfl) rfl (fun _ => rfl) rfl (fun _ => by omega)) rfl rfl ?_
      refine RunD.op (ok_ldP rfl (fun _ => rfl) rfl) rfl rfl ?_
      refine RunD.op (ok_call (fun hp => ct_rAt _ _) (.a rfl (fun _ => rfl) <| .a rfl (fun _ => rfl) <| .nil)) rfl rfl ?_
      refine RunD.new (ok_bsl eI 31 (fun hp => .cons rfl <| .nil) rfl rfl rfl rfl) rfl rfl rfl rfl ?_
      refine RunD.z ?_
      refine TrL.wkC 6 (.any <| .k <| .nil) rfl ?_
      refine TrL.app rfl rfl rfl rfl rfl rfl rfl rfl (by first | omega | (simp only [List.length_cons, List.length_nil]; omega)) (by first | omega | (simp only [List.length_cons, List.length_nil]; omega)) ?_
      refine TrL.norm (S' := [⟨_, _, _, _⟩, ⟨_, _, _, _⟩, ⟨_, _, _, _⟩, ⟨_, _, _, _⟩, ⟨_, _, _, _⟩, ⟨_, _, _, _⟩, ⟨_, _, _, _⟩, ⟨_, _, _, _⟩, ⟨_, _, _, _⟩, ⟨_, _, _, _⟩, ⟨_, _, _, _⟩, ⟨_, _, _, _⟩, ⟨_, _, _, _⟩, ⟨_, _, _, _⟩, ⟨_, _, _, _⟩, ⟨_, _, _, _⟩, ⟨_, _, _, _⟩, ⟨_, _, _, _⟩, ⟨_, _, _, _⟩, ⟨_, _, _, _⟩, ⟨_, _, _, _⟩, ⟨_, _, _, _⟩, ⟨_, _, _, _⟩]) rfl rfl ?_
      refine TrL.op (ok_fldO rfl (fun _ => rfl)) rfl rfl ?_
      refine TrL.stB rfl rfl rfl rfl ?_
      refine TrL.fin ?_
      refine End.nxt ?_
      refine Tr.draw 13 mixed (by kernel_rfl) ?_
      refine RunD.op (ok_fldO rfl (fun _ => rfl)) rfl rfl ?_
      refine RunD.op (ok_ldB rfl (fun _ => rfl) rfl) rfl rfl ?_
      refine RunD.op (ok_move rfl (fun _ => rfl)) rfl rfl ?_
      refine RunD.op (ok_fldO rfl (fun _ => rfl)) rfl rfl ?_
      refine RunD.op (ok_ldB rfl (fun _ => rfl) rfl) rfl rfl ?_
      refine RunD.op (ok_move rfl (fun _ => rfl)) rfl rfl ?_
      refine RunD.op (ok_move rfl (fun _ => rfl)) rfl rfl ?_
      first | refine RunD.op (ok_idxN rfl (fun _ => rfl) rfl (fun _ => rfl) rfl (fun _ => by omega)) rfl rfl ?_ | refine RunD.op (ok_idxP rfl (fun _ => rfl) rfl (fun _ => rfl) rfl (fun _ => by omega)) rfl rfl ?_
      refine RunD.op (ok_ldP rfl (fun _ => rfl) rfl) rfl rfl ?_
      first | refine RunD.op (ok_idxN rfl (fun _ => rfl) rfl (fun _ => rfl) rfl (fun _ => by omega)) rfl rfl ?_ | refine RunD.op (ok_idxP rfl (fun _ => rfl) rfl (fun _ => rfl) rfl (fun _ => by omega)) rfl rfl ?_
      refine RunD.op (ok_ldP rfl (fun _ => rfl) rfl) rfl rfl ?_
      refine RunD.op (ok_call (fun hp => ct_rAt _ _) (.a rfl (fun _ => rfl) <| .a rfl (fun _ => rfl) <| .nil)) rfl rfl ?_
      refine RunD.new (ok_bsl eI 46 (fun hp => .cons rfl <| .nil) rfl rfl rfl rfl) rfl rfl rfl rfl ?_
      refine RunD.z ?_
      refine TrL.wkC 6 (.k <| .any <| .nil) rfl ?_
      refine TrL.app rfl rfl rfl rfl rfl rfl rfl rfl (by first | omega | (simp only [List.length_cons, List.length_nil]; omega)) (by first | omega | (simp only [List.length_cons, List.length_nil]; omega)) ?_
      refine TrL.norm (S' := ⟨_, _, _, _⟩ :: ⟨_, _, _, _⟩ :: ⟨_, _, _, _⟩ :: ⟨_, _, _, _⟩ :: ⟨_, _, _, _⟩ :: ⟨_, _, _, _⟩ :: ⟨_, _, _, _⟩ :: ⟨_, _, _, _⟩ :: ⟨_, _, _, _⟩ :: ⟨_, _, _, _⟩ :: ⟨_, _, _, _⟩ :: ⟨_, _, _, _⟩ :: ⟨_, _, _, _⟩ :: ⟨_, _, _, _⟩ :: ⟨_, _, _, _⟩ :: ⟨_, _, _, _⟩ :: ⟨_, _, _, _⟩ :: ⟨_, _, _, _⟩ :: ⟨_, _, _, _⟩ :: ⟨_, _, _, _⟩ :: ⟨_, _, _, _⟩ :: ⟨_, _, _, _⟩ :: ⟨_, _, _, _⟩ :: ⟨_, _, _, _⟩ :: ⟨_, _, _, _⟩ :: ⟨_, _, _, _⟩ :: ⟨_, _, _, _⟩ :: ⟨_, _, _, _⟩ :: ⟨_, _, _, _⟩ :: ⟨_, _, _, _⟩ :: ⟨_, _, _, _⟩ :: ⟨_, _, _, _⟩ :: ⟨_, _, _, _⟩ :: ⟨_, _, _, _⟩ :: ⟨_, _, _, _⟩ :: ⟨_, _, _, _⟩ :: ⟨_, _, _, _⟩ :: ⟨_, _, _, _⟩ :: []) rfl rfl ?_
      refine TrL.op (ok_fldO rfl (fun _ => rfl)) rfl rfl ?_
      refine TrL.stB rfl rfl rfl rfl ?_
      refine TrL.fin ?_
      refine End.blk ?_
      refine End.nxt ?_
      refine Tr.rg ?_
      refine TrL.op (ok_move rfl (fun _ => rfl)) rfl rfl ?_
      refine TrL.op (ok_add rfl (fun _ => rfl) rfl (fun _ => rfl) (fun _ => by omega)) rfl rfl ?_
      refine TrL.op (ok_assign rfl (fun _ => rfl)) rfl rfl ?_
      refine TrL.fin ?_
      exact End.lp (k + 1) (by first | rfl | omega | (simp; done) | (simp; omega) | assumption) (by omega) (Ent.mk (.i rfl (by first | rfl | omega | (simp; done) | (simp; omega) | assumption) <| .k rfl rfl <| .k rfl rfl <| .k rfl rfl <| .k rfl rfl <| .nil) (.a (by rw [tab_succ]; rfl) (by first | rfl | omega | (simp; done) | (simp; omega) | assumption) <| .a (by rw [tab_succ]; rfl) (by first | rfl | omega | (simp; done) | (simp; omega) | assumption) <| .e (by rfl) rfl <| .k rfl <| .k rfl <| .nil) rfl)
    · intro h4
      replace h4 := Int.not_lt.1 (of_decide_eq_false h4)
      refine Tr.exit ?_
      refine Exs.thn ?_
      refine Exs.thn ?_
      refine Exs.here ?_
      exact End.cut (k) (by omega) (Ent.mk (.i rfl (by first | rfl | omega | (simp; done) | (simp; omega) | assumption) <| .k rfl rfl <| .k rfl rfl <| .k rfl rfl <| .k rfl rfl <| .nil) (.a (by first | rfl | omega | (simp; done) | (simp; omega) | assumption) (by first | rfl | omega | (simp; done) | (simp; omega) | assumption) <| .a (by first | rfl | omega | (simp; done) | (simp; omega) | assumption) (by first | rfl | omega | (simp; done) | (simp; omega) | assumption) <| .k rfl <| .k rfl <| .k rfl <| .nil) rfl)
  · rintro _ rfl
    refine End.norm (S' := [⟨7, true, _, _⟩, ⟨2, true, _, _⟩, ⟨4, true, _, _⟩, ⟨5, true, _, _⟩, ⟨6, true, _, _⟩]) (M' := [⟨111, _, _⟩, ⟨112, _, _⟩, ⟨6, _, _⟩, ⟨2, _, _⟩, ⟨4, _, _⟩]) rfl rfl ?_
    refine End.nxt ?_
    refine Tr.seq ?_
    refine Tr.rg ?_
    refine TrL.op (ok_ldBS rfl (fun _ => rfl)) rfl rfl ?_
    refine TrL.stB rfl rfl rfl rfl ?_
    refine TrL.fin ?_
    refine End.nxt ?_
    refine Tr.ent (S' := [⟨4, true, _, _⟩]) (M' := [⟨4, _, _⟩, ⟨111, _, _⟩, ⟨112, _, _⟩]) (Ent.mk (.k rfl rfl <| .nil) (.k rfl <| .k rfl <| .k rfl <| .nil) rfl) ?_
    refine Tr.frzC 111 4 (by simp only [lenMax]; omega) rfl rfl ?_
    refine Tr.frzC 112 4 (by simp only [lenMax]; omega) rfl rfl ?_
    refine Tr.ret ?_
    exact Rts.resC1 (fn := Try.f38) rfl rfl (aggRd rfl (by first | rfl | omega | (simp; done) | (simp; omega) | assumption))

set_option maxRecDepth 100000 in
set_option maxHeartbeats 1000000 in
theorem ct_OrigamiChecks (o : Ori) (p : List Int) (i : Int) : Ct Try.prog 6 [kRd eO o, kRd (eL eI) p, kI i] (kB true) := by
  refine Ct.mk Try.func6 rfl Try.ntmps6 rfl (fun w J => ?_)
  refine Tr.seq ?_
  refine Tr.rg ?_
  refine TrL.new (ok_box 3 rfl (fun _ => rfl) rfl) rfl rfl rfl rfl ?_
  refine TrL.op (ok_assign rfl (fun _ => rfl)) rfl rfl ?_
  refine TrL.fin ?_
  refine End.nxt ?_
  refine Tr.seq ?_
  refine Tr.seq ?_
  refine Tr.rg ?_
  refine TrL.op (ok_call (fun hp => ct_awake) (.nil)) rfl rfl ?_
  refine TrL.op (ok_not rfl (fun _ => rfl)) rfl rfl ?_
  refine TrL.fin ?_
  refine End.nxt ?_
  refine Tr.cnd rfl ?_ ?_
  · intro h1
    simp at h1
  · intro h1
    refine Tr.skip ?_
    refine End.nxt ?_
    refine Tr.seq ?_
    refine Tr.seq ?_
    refine Tr.rg ?_
    refine TrL.op (ok_ldBS rfl (fun _ => rfl)) rfl rfl ?_
    refine TrL.op (ok_call (fun hp => ct_Few _) (.s rfl (fun _ => rfl) rfl <| .nil)) rfl rfl ?_
    refine TrL.op (ok_not rfl (fun _ => rfl)) rfl rfl ?_
    refine TrL.op (ok_move rfl (fun _ => rfl)) rfl rfl ?_
    refine TrL.gd rfl rfl rfl (ok_move rfl (fun _ => rfl)) rfl rfl ?_
    refine TrL.gd rfl rfl rfl (ok_lenJ rfl id) rfl rfl ?_
    refine TrL.gd rfl rfl rfl (ok_gtr rfl id rfl (fun _ => rfl)) rfl rfl ?_
    refine TrL.gd rfl rfl rfl (ok_move rfl id) rfl rfl ?_
    refine TrL.gd rfl rfl rfl (ok_move rfl (fun _ => rfl)) rfl rfl ?_
    refine TrL.gd rfl rfl rfl (ok_lenJ rfl id) rfl rfl ?_
    refine TrL.gd rfl rfl rfl (ok_leq rfl id rfl (fun _ => rfl)) rfl rfl ?_
    refine TrL.gd rfl rfl rfl (ok_and rfl id rfl (fun hp h => gdT2 (id hp) h)) rfl rfl ?_
    refine TrL.op (ok_or rfl (fun _ => rfl) rfl (fun hp h => gdF2 ((fun _ => rfl) hp) h)) rfl rfl ?_
    refine TrL.op (ok_move rfl (fun _ => rfl)) rfl rfl ?_
    refine TrL.gd rfl rfl rfl (ok_move rfl (fun _ => rfl)) rfl rfl ?_
    refine TrL.gd rfl rfl rfl (ok_lenJ rfl id) rfl rfl ?_
    refine TrL.gd rfl rfl rfl (ok_gtr rfl id rfl (fun _ => rfl)) rfl rfl ?_
    refine TrL.op (ok_or rfl (fun _ => rfl) rfl (fun hp h => gdF2 ((fun _ => rfl) hp) h)) rfl rfl ?_
    refine TrL.fin ?_
    refine End.nxt ?_
    refine Tr.cnd rfl ?_ ?_
    · intro h3
      refine Tr.seq ?_
      refine Tr.rg ?_
      refine TrL.op (ok_assign rfl (fun _ => rfl)) rfl rfl ?_
      refine TrL.fin ?_
      refine End.nxt ?_
      refine Tr.ret ?_
      refine Rts.thn ?_
      exact Rts.res1 (fn := Try.f6) rfl (.b rfl (by rfl) <| .nil)
    · intro h3
      simp at h3
      have hpl : p.length ≤ 62 := by omega
      refine Tr.skip ?_
      refine End.nxt ?_
      refine Tr.seq ?_
      refine Tr.rg ?_
      refine TrL.op (ok_ldBS rfl (fun _ => rfl)) rfl rfl ?_
      refine TrL.op (ok_call (fun hp => ct_rCheck _) (.s rfl (fun _ => rfl) rfl <| .nil)) rfl rfl ?_
      refine TrL.op (ok_assign rfl (fun _ => rfl)) rfl rfl ?_
      refine TrL.fin ?_
      refine End.nxt ?_
      refine Tr.seq ?_
      refine Tr.rg ?_
      refine TrL.op (ok_ldBS rfl (fun _ => rfl)) rfl rfl ?_
      refine TrL.op (ok_call (fun hp => ct_oComponents _) (.s rfl (fun _ => rfl) rfl <| .nil)) rfl rfl ?_
      refine TrL.op (ok_move rfl (fun _ => rfl)) rfl rfl ?_
      refine TrL.op (ok_ext rfl (fun _ => rfl) rfl) rfl rfl ?_
      refine TrL.op (ok_ext rfl (fun _ => rfl) rfl) rfl rfl ?_
      refine TrL.op (ok_assign rfl (fun _ => rfl)) rfl rfl ?_
      refine TrL.op (ok_assign rfl (fun _ => rfl)) rfl rfl ?_
      refine TrL.fin ?_
      refine End.nxt ?_
      refine Tr.seq ?_
      refine Tr.rg ?_
      refine TrL.op (ok_ldBS rfl (fun _ => rfl)) rfl rfl ?_
      refine TrL.op (ok_move rfl (fun _ => rfl)) rfl rfl ?_
      refine TrL.op (ok_call (fun hp => ct_oPart _ _) (.s rfl (fun _ => rfl) rfl <| .a rfl (fun _ => rfl) <| .nil)) rfl rfl ?_
      refine TrL.op (ok_move rfl (fun _ => rfl)) rfl rfl ?_
      refine TrL.op (ok_ext rfl (fun _ => rfl) rfl) rfl rfl ?_
      refine TrL.op (ok_ext rfl (fun _ => rfl) rfl) rfl rfl ?_
      refine TrL.new (ok_alloc 10) rfl rfl rfl rfl ?_
      refine TrL.stB rfl rfl rfl rfl ?_
      refine TrL.op (ok_assign rfl (fun _ => rfl)) rfl rfl ?_
      refine TrL.fin ?_
      refine End.nxt ?_
      refine Tr.seq ?_
      refine Tr.seq ?_
      refine Tr.rg ?_
      refine TrL.op (ok_ldBS rfl (fun _ => rfl)) rfl rfl ?_
      refine TrL.op (ok_call (fun hp => ct_oCheck _) (.s rfl (fun _ => rfl) rfl <| .nil)) rfl rfl ?_
      refine TrL.op (ok_move rfl (fun _ => rfl)) rfl rfl ?_
      refine TrL.op (ok_neq rfl (fun _ => rfl) rfl (fun _ => rfl)) rfl rfl ?_
      refine TrL.op (ok_move rfl (fun _ => rfl)) rfl rfl ?_
      refine TrL.gd rfl rfl rfl (ok_move rfl (fun _ => rfl)) rfl rfl ?_
      refine TrL.gd rfl rfl rfl (ok_move rfl (fun _ => rfl)) rfl rfl ?_
      refine TrL.gd rfl rfl rfl (ok_neq rfl id rfl id) rfl rfl ?_
      refine TrL.op (ok_or rfl (fun _ => rfl) rfl (fun hp h => gdF2 ((fun _ => rfl) hp) h)) rfl rfl ?_
      refine TrL.fin ?_
      refine End.nxt ?_
      refine Tr.cnd rfl ?_ ?_
      · intro h8
        simp at h8
      · intro h8
        refine Tr.skip ?_
        refine End.nxt ?_
        refine Tr.meet2 (σ := Unit) [⟨1, true, _, _⟩] [] (.k rfl rfl <| .nil) (.nil) (fun _ => []) (fun _ => []) (fun _ => True) ?_ ?_
        · skip
          refine Tr.seq ?_
          refine Tr.rg ?_
          refine TrL.op (ok_move rfl (fun _ => rfl)) rfl rfl ?_
          refine TrL.op (ok_neq rfl (fun _ => rfl) rfl (fun _ => rfl)) rfl rfl ?_
          refine TrL.fin ?_
          refine End.nxt ?_
          refine Tr.cnd rfl ?_ ?_
          · intro h10
            replace h10 := of_decide_eq_true h10
            have he : partE o i = chkO o := orE_l h10
            refine Tr.seq ?_
            refine Tr.rg ?_
            refine TrL.op (ok_move rfl (fun _ => rfl)) rfl rfl ?_
            refine TrL.op (ok_lenJ rfl (fun _ => rfl)) rfl rfl ?_
            refine TrL.op (ok_gtr rfl (fun _ => rfl) rfl (fun _ => rfl)) rfl rfl ?_
            refine TrL.op (ok_move rfl (fun _ => rfl)) rfl rfl ?_
            refine TrL.gd rfl rfl rfl (ok_move rfl (fun _ => rfl)) rfl rfl ?_
            refine TrL.gd rfl rfl rfl (ok_move rfl (fun _ => rfl)) rfl rfl ?_
            refine TrL.gd rfl rfl rfl (ok_neq rfl id rfl id) rfl rfl ?_
            refine TrL.op (ok_or rfl (fun _ => rfl) rfl (fun hp h => gdF2 ((fun _ => rfl) hp) h)) rfl rfl ?_
            refine TrL.op (ok_move rfl (fun _ => rfl)) rfl rfl ?_
            refine TrL.gd rfl rfl rfl (ok_ldBS rfl (fun _ => rfl)) rfl rfl ?_
            refine TrL.gd rfl rfl rfl (ok_call (fun hp => ct_nothing _) (.s rfl id rfl <| .nil)) rfl rfl ?_
            refine TrL.gd rfl rfl rfl (ok_not rfl id) rfl rfl ?_
            refine TrL.op (ok_or rfl (fun _ => rfl) rfl (fun hp h => gdF2 ((fun _ => rfl) hp) h)) rfl rfl ?_
            refine TrL.fin ?_
            refine End.nxt ?_
            refine Tr.cnd rfl ?_ ?_
            · intro h11
              simp [h10, he, partR] at h11
            · intro h11
              refine Tr.skip ?_
              exact End.cut (()) (by first | rfl | omega | (simp; done) | (simp; omega) | assumption) (Ent.mk (.k rfl rfl <| .nil) (.nil) rfl)
          · intro h10
            replace h10 := Classical.not_not.1 (of_decide_eq_false h10)
            have v : Valid o := valid_of h10
            have he : partE o i = if 0 ≤ i ∧ i < (comps o o.1.length).length then 0 else 6 := orE_r h10
            refine Tr.seq ?_
            refine Tr.rg ?_
            refine TrL.op (ok_ldBS rfl (fun _ => rfl)) rfl rfl ?_
            refine TrL.op (ok_call (fun hp => ct_rComponents _ v) (.s rfl (fun _ => rfl) rfl <| .nil)) rfl rfl ?_
            refine TrL.op (ok_assign rfl (fun _ => rfl)) rfl rfl ?_
            refine TrL.fin ?_
            refine End.nxt ?_
            refine Tr.seq ?_
            refine Tr.seq ?_
            refine Tr.rg ?_
            refine TrL.op (ok_move rfl (fun _ => rfl)) rfl rfl ?_
            refine TrL.op (ok_move rfl (fun _ => rfl)) rfl rfl ?_
            refine TrL.op (ok_call (fun hp => ct_Lists _ _) (.a rfl (fun _ => rfl) <| .a rfl (fun _ => rfl) <| .nil)) rfl rfl ?_
            refine TrL.op (ok_not rfl (fun _ => rfl)) rfl rfl ?_
            refine TrL.fin ?_
            refine End.nxt ?_
            refine Tr.cnd rfl ?_ ?_
            · intro h14
              simp [h10] at h14
            · intro h14
              refine Tr.skip ?_
              refine End.nxt ?_
              refine Tr.seq ?_
              refine Tr.rg ?_
              refine TrL.op (ok_move rfl (fun _ => rfl)) rfl rfl ?_
              refine TrL.op (ok_lss rfl (fun _ => rfl) rfl (fun _ => rfl)) rfl rfl ?_
              refine TrL.op (ok_move rfl (fun _ => rfl)) rfl rfl ?_
              refine TrL.gd rfl rfl rfl (ok_move rfl (fun _ => rfl)) rfl rfl ?_
              refine TrL.gd rfl rfl rfl (ok_move rfl (fun _ => rfl)) rfl rfl ?_
              refine TrL.gd rfl rfl rfl (ok_lenJ rfl id) rfl rfl ?_
              refine TrL.gd rfl rfl rfl (ok_geq rfl id rfl id) rfl rfl ?_
              refine TrL.op (ok_or rfl (fun _ => rfl) rfl (fun hp h => gdF2 ((fun _ => rfl) hp) h)) rfl rfl ?_
              refine TrL.fin ?_
              refine End.nxt ?_
              refine Tr.cnd rfl ?_ ?_
              · intro h16
                try simp only [decide_eq_true_eq, Bool.or_eq_true] at h16
                rw [if_neg (by omega)] at he
                refine Tr.seq ?_
                refine Tr.rg ?_
                refine TrL.op (ok_move rfl (fun _ => rfl)) rfl rfl ?_
                refine TrL.op (ok_neq rfl (fun _ => rfl) rfl (fun _ => rfl)) rfl rfl ?_
                refine TrL.op (ok_move rfl (fun _ => rfl)) rfl rfl ?_
                refine TrL.gd rfl rfl rfl (ok_ldBS rfl (fun _ => rfl)) rfl rfl ?_
                refine TrL.gd rfl rfl rfl (ok_call (fun hp => ct_nothing _) (.s rfl id rfl <| .nil)) rfl rfl ?_
                refine TrL.gd rfl rfl rfl (ok_not rfl id) rfl rfl ?_
                refine TrL.op (ok_or rfl (fun _ => rfl) rfl (fun hp h => gdF2 ((fun _ => rfl) hp) h)) rfl rfl ?_
                refine TrL.fin ?_
                refine End.nxt ?_
                refine Tr.cnd rfl ?_ ?_
                · intro h17
                  simp [he, partR] at h17
                · intro h17
                  refine Tr.skip ?_
                  exact End.cut (()) (by first | rfl | omega | (simp; done) | (simp; omega) | assumption) (Ent.mk (.k rfl rfl <| .nil) (.nil) rfl)
              · intro h16
                try simp only [decide_eq_false_iff_not, Bool.or_eq_false_iff, Int.not_lt, Int.not_le] at h16
                rw [if_pos (by omega)] at he
                refine Tr.seq ?_
                refine Tr.draw 7 mixed (by kernel_rfl) ?_
                refine RunD.op (ok_move rfl (fun _ => rfl)) rfl rfl ?_
                refine RunD.op (ok_neq rfl (fun _ => rfl) rfl (fun _ => rfl)) rfl rfl ?_
                refine RunD.op (ok_move rfl (fun _ => rfl)) rfl rfl ?_
                refine RunD.gd rfl rfl rfl (ok_ldBS rfl (fun _ => rfl)) rfl rfl ?_
                refine RunD.gd rfl rfl rfl (ok_ldBS rfl (fun _ => rfl)) rfl rfl ?_
                refine RunD.gd rfl rfl rfl (ok_move rfl (fun _ => rfl)) rfl rfl ?_
                refine RunD.gd rfl rfl rfl (ok_call (fun hp => ct_rPart _ _ v (by omega) (by omega)) (.s rfl id rfl <| .a rfl id <| .nil)) rfl rfl ?_
                refine RunD.z ?_
                refine TrL.gd rfl rfl rfl (ok_call (fun hp => ct_rSame _ _) (.s rfl id rfl <| .a rfl id <| .nil)) rfl rfl ?_
                refine TrL.gd rfl rfl rfl (ok_not rfl id) rfl rfl ?_
                refine TrL.op (ok_or rfl (fun _ => rfl) rfl (fun hp h => gdF2 ((fun _ => rfl) hp) h)) rfl rfl ?_
                refine TrL.fin ?_
                refine End.nxt ?_
                refine Tr.cnd rfl ?_ ?_
                · intro h19
                  simp [he, partR] at h19
                · intro h19
                  refine Tr.skip ?_
                  exact End.cut (()) (by first | rfl | omega | (simp; done) | (simp; omega) | assumption) (Ent.mk (.k rfl rfl <| .nil) (.nil) rfl)
        · intro _ hM
          refine Tr.norm (S' := [⟨1, true, _, _⟩]) (M' := []) rfl rfl ?_
          refine Tr.seq ?_
          refine Tr.rg ?_
          refine TrL.op (ok_move rfl (fun _ => rfl)) rfl rfl ?_
          refine TrL.op (ok_call (fun hp => ct_oCycles _) (.a rfl (fun _ => rfl) <| .nil)) rfl rfl ?_
          refine TrL.op (ok_move rfl (fun _ => rfl)) rfl rfl ?_
          refine TrL.op (ok_ext rfl (fun _ => rfl) rfl) rfl rfl ?_
          refine TrL.op (ok_ext rfl (fun _ => rfl) rfl) rfl rfl ?_
          refine TrL.op (ok_assign rfl (fun _ => rfl)) rfl rfl ?_
          refine TrL.op (ok_assign rfl (fun _ => rfl)) rfl rfl ?_
          refine TrL.fin ?_
          refine End.nxt ?_
          refine Tr.seq ?_
          refine Tr.rg ?_
          refine TrL.op (ok_move rfl (fun _ => rfl)) rfl rfl ?_
          refine TrL.op (ok_move rfl (fun _ => rfl)) rfl rfl ?_
          refine TrL.op (ok_lenJ rfl (fun _ => rfl)) rfl rfl ?_
          refine TrL.op (ok_call (fun hp => ct_rCheckList _ _) (.a rfl (fun _ => rfl) <| .a rfl (fun _ => rfl) <| .nil)) rfl rfl ?_
          refine TrL.op (ok_assign rfl (fun _ => rfl)) rfl rfl ?_
          refine TrL.fin ?_
          refine End.nxt ?_
          refine Tr.seq ?_
          refine Tr.seq ?_
          refine Tr.rg ?_
          refine TrL.op (ok_move rfl (fun _ => rfl)) rfl rfl ?_
          refine TrL.op (ok_lenJ rfl (fun _ => rfl)) rfl rfl ?_
          refine TrL.op (ok_gtr rfl (fun _ => rfl) rfl (fun _ => rfl)) rfl rfl ?_
          refine TrL.fin ?_
          refine End.nxt ?_
          refine Tr.cnd rfl ?_ ?_
          · intro h23
            replace h23 := of_decide_eq_true h23
            have hc : cycE p = 8 := if_pos (by omega)
            refine Tr.rg ?_
            refine TrL.op (ok_assign rfl (fun _ => rfl)) rfl rfl ?_
            refine TrL.fin ?_
            refine End.nxt ?_
            refine Tr.seq ?_
            refine Tr.seq ?_
            refine Tr.rg ?_
            refine TrL.op (ok_move rfl (fun _ => rfl)) rfl rfl ?_
            refine TrL.op (ok_neq rfl (fun _ => rfl) rfl (fun _ => rfl)) rfl rfl ?_
            refine TrL.fin ?_
            refine End.nxt ?_
            refine Tr.cnd rfl ?_ ?_
            · intro h25
              refine Tr.seq ?_
              refine Tr.rg ?_
              refine TrL.op (ok_move rfl (fun _ => rfl)) rfl rfl ?_
              refine TrL.op (ok_move rfl (fun _ => rfl)) rfl rfl ?_
              refine TrL.op (ok_eql rfl (fun _ => rfl) rfl (fun _ => rfl)) rfl rfl ?_
              refine TrL.op (ok_move rfl (fun _ => rfl)) rfl rfl ?_
              refine TrL.gd rfl rfl rfl (ok_move rfl (fun _ => rfl)) rfl rfl ?_
              refine TrL.gd rfl rfl rfl (ok_lenJ rfl id) rfl rfl ?_
              refine TrL.gd rfl rfl rfl (ok_eql rfl id rfl (fun _ => rfl)) rfl rfl ?_
              refine TrL.op (ok_and rfl (fun _ => rfl) rfl (fun hp h => gdT2 ((fun _ => rfl) hp) h)) rfl rfl ?_
              refine TrL.op (ok_assign rfl (fun _ => rfl)) rfl rfl ?_
              refine TrL.fin ?_
              refine End.nxt ?_
              refine Tr.ret ?_
              refine Rts.thn ?_
              exact Rts.res1 (fn := Try.f6) rfl (.b rfl (by simp [hc]) <| .nil)
            · intro h25
              simp at h25
          · intro h23
            replace h23 := Int.not_lt.1 (of_decide_eq_false h23)
            have hc : cycE p = chkL p p.length := if_neg (by omega)
            refine Tr.skip ?_
            refine End.nxt ?_
            refine Tr.seq ?_
            refine Tr.seq ?_
            refine Tr.rg ?_
            refine TrL.op (ok_move rfl (fun _ => rfl)) rfl rfl ?_
            refine TrL.op (ok_neq rfl (fun _ => rfl) rfl (fun _ => rfl)) rfl rfl ?_
            refine TrL.fin ?_
            refine End.nxt ?_
            refine Tr.cnd rfl ?_ ?_
            · intro h25
              replace h25 := of_decide_eq_true h25
              refine Tr.seq ?_
              refine Tr.rg ?_
              refine TrL.op (ok_move rfl (fun _ => rfl)) rfl rfl ?_
              refine TrL.op (ok_move rfl (fun _ => rfl)) rfl rfl ?_
              refine TrL.op (ok_eql rfl (fun _ => rfl) rfl (fun _ => rfl)) rfl rfl ?_
              refine TrL.op (ok_move rfl (fun _ => rfl)) rfl rfl ?_
              refine TrL.gd rfl rfl rfl (ok_move rfl (fun _ => rfl)) rfl rfl ?_
              refine TrL.gd rfl rfl rfl (ok_lenJ rfl id) rfl rfl ?_
              refine TrL.gd rfl rfl rfl (ok_eql rfl id rfl (fun _ => rfl)) rfl rfl ?_
              refine TrL.op (ok_and rfl (fun _ => rfl) rfl (fun hp h => gdT2 ((fun _ => rfl) hp) h)) rfl rfl ?_
              refine TrL.op (ok_assign rfl (fun _ => rfl)) rfl rfl ?_
              refine TrL.fin ?_
              refine End.nxt ?_
              refine Tr.ret ?_
              refine Rts.thn ?_
              exact Rts.res1 (fn := Try.f6) rfl (.b rfl (by simp [hc, h25]) <| .nil)
            · intro h25
              replace h25 := Classical.not_not.1 (of_decide_eq_false h25)
              have P := perm_of_chk h25
              refine Tr.skip ?_
              refine End.nxt ?_
              refine Tr.seq ?_
              refine Tr.rg ?_
              refine TrL.op (ok_move rfl (fun _ => rfl)) rfl rfl ?_
              refine TrL.op (ok_eql rfl (fun _ => rfl) rfl (fun _ => rfl)) rfl rfl ?_
              refine TrL.op (ok_move rfl (fun _ => rfl)) rfl rfl ?_
              refine TrL.gd rfl rfl rfl (ok_move rfl (fun _ => rfl)) rfl rfl ?_
              refine TrL.gd rfl rfl rfl (ok_move rfl (fun _ => rfl)) rfl rfl ?_
              refine TrL.gd rfl rfl rfl (ok_call (fun hp => ct_rCycles _ _ P (by omega)) (.a rfl id <| .nil)) rfl rfl ?_
              refine TrL.gd rfl rfl rfl (ok_call (fun hp => ct_Lists _ _) (.a rfl id <| .a rfl id <| .nil)) rfl rfl ?_
              refine TrL.op (ok_and rfl (fun _ => rfl) rfl (fun hp h => gdT2 ((fun _ => rfl) hp) h)) rfl rfl ?_
              refine TrL.op (ok_assign rfl (fun _ => rfl)) rfl rfl ?_
              refine TrL.fin ?_
              refine End.nxt ?_
              refine Tr.ret ?_
              exact Rts.res1 (fn := Try.f6) rfl (.b rfl (by simp [hc, h25]) <| .nil)

end Go.Fl

/- Vertices of corners, horizontal saddle connections. Plain Lean, no program in sight. -/
namespace Go.Fl
/-! ### Which row of a list of disjoint rows an element is on -/
theorem row_uniq {L : List (List Int)} (h : L.flatten.Nodup) {i k : Nat} (hi : i < L.length) (hk : k < L.length) {x : Int} (h1 : x ∈ nth L i) (h2 : x ∈ nth L k) : i = k := by
  have hp := (List.pairwise_flatten.1 h).2
  rw [List.pairwise_iff_getElem] at hp
  have e : ∀ {j : Nat} (hj : j < L.length), nth L j = L[j] := fun hj => nth_of_get? (List.getElem?_eq_getElem hj)
  rw [e hi] at h1; rw [e hk] at h2
  rcases Nat.lt_trichotomy i k with hlt | heq | hgt
  · exact absurd rfl (hp i k hi hk hlt x h1 x h2)
  · exact heq
  · exact absurd rfl (hp k i hk hi hgt x h2 x h1)
/-- Rows that are written into a list, each with its value. -/
def rowTo (L : List (List Int)) (F : Nat → Int) (n : Nat) : Nat → List Int
  | 0 => List.replicate n 0
  | k + 1 => setC (rowTo L F n k) (nth L k) (F k)
theorem rowTo_len {L : List (List Int)} {F : Nat → Int} {n : Nat} : ∀ {k : Nat}, (rowTo L F n k).length = n
  | 0 => by simp [rowTo]
  | k + 1 => by rw [rowTo, setC_len, rowTo_len]
theorem nth_rowTo {L : List (List Int)} {F : Nat → Int} {n : Nat} (h : L.flatten.Nodup) (h0 : ∀ x ∈ L.flatten, 0 ≤ x) {i j : Nat} (hi : i < L.length) (hj : j < n) (hx : (j : Int) ∈ nth L i) : ∀ {k : Nat}, k ≤ L.length → nth (rowTo L F n k) j = if i < k then F i else 0
  | 0, _ => by rw [if_neg (by omega)]; unfold rowTo; exact nth_rep hj
  | k + 1, hk => by
    rw [rowTo, nth_setC (fun x hx => h0 x (List.mem_flatten.2 ⟨_, nth_mem (show k < L.length by omega), hx⟩)) (by rw [rowTo_len]; exact hj)]
    by_cases e : i = k
    · subst e; rw [if_pos hx, if_pos (by omega)]
    · rw [if_neg (fun hh => e (row_uniq h hi (by omega) hx hh)), nth_rowTo h h0 hi hj hx (by omega)]
      by_cases h2 : i < k
      · rw [if_pos h2, if_pos (by omega)]
      · rw [if_neg h2, if_neg (by omega)]
theorem vertTo_row {L : List (List Int)} {n : Nat} : ∀ {k : Nat}, vertTo L n k = rowTo L (fun i => (i : Int)) n k
  | 0 => rfl
  | k + 1 => by rw [vertTo, rowTo, vertTo_row]
/-! ### Orders and vertices of squares -/
def lenM (L : List (List Int)) (i : Nat) : Int := ((nth L i).length : Int) - 1
def ordV (o : Ori) : List Int := rowTo (vtx o) (lenM (vtx o)) o.1.length (vtx o).length
/-- The order of the lower left corner. -/
def ordF (o : Ori) (x : Int) : Int := ((orb (comm o) x).length : Int) - 1
theorem vtx_has {o : Ori} (v : Valid o) {x : Int} (hx : Sq o.1.length x) : ∃ i, i < (vtx o).length ∧ x ∈ nth (vtx o) i := by
  have h := (flat_perm v.pC v.pos).mem_iff.2 (mem_sqs.2 hx)
  obtain ⟨c, hc, hm⟩ := List.mem_flatten.1 h
  obtain ⟨i, hi, rfl⟩ := List.getElem_of_mem hc
  exact ⟨i, hi, by rw [show nth (vtx o) i = (vtx o)[i] from nth_of_get? (List.getElem?_eq_getElem hi)]; exact hm⟩
theorem vtx_len_of {o : Ori} (v : Valid o) {i : Nat} (hi : i < (vtx o).length) {x : Int} (hx : x ∈ nth (vtx o) i) : ((nth (vtx o) i).length : Int) - 1 = ordF o x := by
  obtain ⟨j, hj, _, hc⟩ := v.pC.cycs_mem (Nat.le_refl _) (nth_mem (xs := vtx o) hi)
  unfold ordF
  rw [hc] at hx ⊢
  rw [orb_len, orb_len, per_orb v.pC (Sq.nat hj) hx]
theorem nth_ordV {o : Ori} (v : Valid o) {x : Int} (hx : Sq o.1.length x) : nth (ordV o) x.toNat = ordF o x := by
  obtain ⟨i, hi, hm⟩ := vtx_has v hx
  have e : ((x.toNat : Nat) : Int) = x := by have := hx.1; omega
  unfold ordV
  rw [nth_rowTo (vtx_good v).nodup (fun y hy => ((vtx_good v).rng y hy).1) hi (by have := hx.1; have := hx.2; omega) (by rw [e]; exact hm) (Nat.le_refl _), if_pos hi]
  exact vtx_len_of v hi hm
theorem nth_vertL {o : Ori} (v : Valid o) {x : Int} (hx : Sq o.1.length x) {i : Nat} (hi : i < (vtx o).length) (hm : x ∈ nth (vtx o) i) : nth (vertL o) x.toNat = i := by
  have e : ((x.toNat : Nat) : Int) = x := by have := hx.1; omega
  unfold vertL
  rw [vertTo_row, nth_rowTo (vtx_good v).nodup (fun y hy => ((vtx_good v).rng y hy).1) hi (by have := hx.1; have := hx.2; omega) (by rw [e]; exact hm) (Nat.le_refl _), if_pos hi]
theorem ordF_nonneg {o : Ori} (v : Valid o) {x : Int} (hx : Sq o.1.length x) : 0 ≤ ordF o x := by
  have := v.pC.pers hx
  unfold ordF; rw [orb_len]; omega
theorem ordF_comm {o : Ori} (v : Valid o) {x : Int} (hx : Sq o.1.length x) : ordF o (ap (comm o) x) = ordF o x := by
  unfold ordF
  rw [orb_len, orb_len, per_orb v.pC hx (v.pC.orb_ap hx (v.pC.orb_self hx))]
theorem ordF_zero {o : Ori} (v : Valid o) {x : Int} (hx : Sq o.1.length x) (h : ordF o x = 0) : ap (comm o) x = x := by
  unfold ordF at h
  rw [orb_len] at h
  have := (v.pC.pers hx).1
  rwa [show per (comm o) x = 1 by omega] at this
/-! ### Saddles -/
abbrev SadT := Int × Int × Int × Int × Int × Int
def posO (o : Ori) (x : Int) : Bool := decide (0 < ordF o x)
def sqL (o : Ori) (k : Nat) : List Int := (sqs k).filter (posO o)
theorem sqL_in {o : Ori} {k : Nat} (h : 0 < ordF o k) : sqL o (k + 1) = sqL o k ++ [(k : Int)] := by
  unfold sqL posO; rw [sqs_succ, List.filter_append]; simp [h]
theorem sqL_out {o : Ori} {k : Nat} (h : ¬ 0 < ordF o k) : sqL o (k + 1) = sqL o k := by
  unfold sqL posO; rw [sqs_succ, List.filter_append]; simp [h]
theorem sqL_len {o : Ori} {k : Nat} : (sqL o k).length ≤ k := by
  have := List.length_filter_le (posO o) (sqs k)
  simpa [sqL, sqs, tab] using this
theorem sqL_nodup {o : Ori} {k : Nat} : (sqL o k).Nodup := (nodup_of_lt sqs_lt).filter _
theorem mem_sqL {o : Ori} {k : Nat} {x : Int} : x ∈ sqL o k ↔ Sq k x ∧ 0 < ordF o x := by
  unfold sqL posO; rw [List.mem_filter, mem_sqs, decide_eq_true_eq]
/-- How far the next vertex of positive order is. -/
def nxtF (o : Ori) (x : Int) : Nat → Nat → Nat
  | 0, m => m
  | f + 1, m => if 0 < ordF o (it o.1 m x) then m else nxtF o x f (m + 1)
def sadN (o : Ori) (x : Int) : Nat := nxtF o x o.1.length 1
theorem nxtF_spec {o : Ori} {x : Int} {q : Nat} (hq : 0 < ordF o (it o.1 q x)) : ∀ {f m : Nat}, m ≤ q → q < m + f → 0 < ordF o (it o.1 (nxtF o x f m) x) ∧ m ≤ nxtF o x f m ∧ nxtF o x f m ≤ q ∧ ∀ j, m ≤ j → j < nxtF o x f m → ¬ 0 < ordF o (it o.1 j x)
  | 0, m, h1, h2 => by omega
  | f + 1, m, h1, h2 => by
    rw [nxtF]
    by_cases h : 0 < ordF o (it o.1 m x)
    · rw [if_pos h]; exact ⟨h, Nat.le_refl _, h1, fun j h3 h4 => by omega⟩
    · rw [if_neg h]
      obtain ⟨a1, a2, a3, a4⟩ := nxtF_spec hq (f := f) (m := m + 1) (by rcases Nat.lt_or_eq_of_le h1 with h5 | h5; omega; subst h5; exact absurd hq h) (by omega)
      refine ⟨a1, by omega, a3, fun j h3 h4 => ?_⟩
      by_cases e : j = m
      · subst e; exact h
      · exact a4 j (by omega) h4
theorem sadN_spec {o : Ori} (v : Valid o) {x : Int} (hx : Sq o.1.length x) (h : 0 < ordF o x) : 0 < ordF o (it o.1 (sadN o x) x) ∧ 1 ≤ sadN o x ∧ sadN o x ≤ o.1.length ∧ ∀ j, 1 ≤ j → j < sadN o x → ordF o (it o.1 j x) = 0 := by
  obtain ⟨p1, p2, p3, _⟩ := v.pR.pers hx
  obtain ⟨a1, a2, a3, a4⟩ := nxtF_spec (o := o) (x := x) (q := per o.1 x) (by rw [p1]; exact h) (f := o.1.length) (m := 1) (by omega) (by omega)
  refine ⟨a1, a2, by unfold sadN; omega, fun j h1 h2 => ?_⟩
  have := a4 j h1 h2
  have := ordF_nonneg v (v.pR.its hx j)
  omega
/-- Where no vertex of positive order is met the squares below go along. -/
theorem below_it {o : Ori} (v : Valid o) {x : Int} (hx : Sq o.1.length x) : ∀ {m : Nat}, (∀ j, 1 ≤ j → j ≤ m → ordF o (it o.1 j x) = 0) → ap (invL o.2) (it o.1 m x) = it o.1 m (ap (invL o.2) x)
  | 0, _ => rfl
  | m + 1, h => by
    have ih := below_it v hx (m := m) fun j h1 h2 => h j h1 (by omega)
    have hm := v.pR.its hx m
    have hm1 := v.pR.its hx (m + 1)
    have hc := ordF_zero v hm1 (h (m + 1) (by omega) (Nat.le_refl _))
    rw [comm_ap hm1] at hc
    have e1 : ap (invL o.1) (it o.1 (m + 1) x) = it o.1 m x := by rw [it_succ]; exact v.pR.inv_ap hm
    rw [e1] at hc
    have hd := v.pU.inv.aps hm
    rw [← hc, v.pU.inv_ap (v.pR.aps hd), ih, it_succ]
def sadF (o : Ori) (x : Int) : SadT :=
  (x, (sadN o x : Int), nth (vertL o) x.toNat, nth (vertL o) (it o.1 (sadN o x) x).toNat, atL (sqL o o.1.length) (it o.1 (sadN o x) x), atL (sqL o o.1.length) (ap o.2 (ap o.1 (ap (invL o.2) (it o.1 (sadN o x - 1) x)))))
def sadL (o : Ori) (k : Nat) : List SadT := (sqL o k).map (sadF o)
/-- The square above the next vertex is on the list of squares, and so is the one below. -/
theorem sad_mem {o : Ori} (v : Valid o) {x : Int} (hx : Sq o.1.length x) (h : 0 < ordF o x) : it o.1 (sadN o x) x ∈ sqL o o.1.length ∧ ap o.2 (ap o.1 (ap (invL o.2) (it o.1 (sadN o x - 1) x))) ∈ sqL o o.1.length := by
  obtain ⟨h1, h2, h3, _⟩ := sadN_spec v hx h
  have hq := v.pR.its hx (sadN o x)
  have hq1 := v.pR.its hx (sadN o x - 1)
  have e : ap (comm o) (it o.1 (sadN o x) x) = ap o.2 (ap o.1 (ap (invL o.2) (it o.1 (sadN o x - 1) x))) := by
    rw [comm_ap hq]
    have : ap (invL o.1) (it o.1 (sadN o x) x) = it o.1 (sadN o x - 1) x := by
      obtain ⟨m, hm⟩ : ∃ m, sadN o x = m + 1 := ⟨sadN o x - 1, by omega⟩
      rw [hm, it_succ, show m + 1 - 1 = m by omega]
      exact v.pR.inv_ap (v.pR.its hx m)
    rw [this]
  refine ⟨mem_sqL.2 ⟨hq, h1⟩, mem_sqL.2 ⟨?_, ?_⟩⟩
  · rw [← e]; exact v.pC.aps hq
  · rw [← e, ordF_comm v hq]; exact h1
theorem sad_below {o : Ori} (v : Valid o) {x : Int} (hx : Sq o.1.length x) (h : 0 < ordF o x) : ap o.2 (it o.1 (sadN o x) (ap (invL o.2) x)) = ap o.2 (ap o.1 (ap (invL o.2) (it o.1 (sadN o x - 1) x))) := by
  obtain ⟨_, h2, _, h4⟩ := sadN_spec v hx h
  rw [below_it v hx (m := sadN o x - 1) fun j a b => h4 j a (by omega), ← it_succ, show sadN o x - 1 + 1 = sadN o x by omega]
theorem sadL_in {o : Ori} {k : Nat} (h : 0 < ordF o k) : sadL o (k + 1) = sadL o k ++ [sadF o k] := by
  unfold sadL; rw [sqL_in h, List.map_append]; rfl
theorem sadL_out {o : Ori} {k : Nat} (h : ¬ 0 < ordF o k) : sadL o (k + 1) = sadL o k := by
  unfold sadL; rw [sqL_out h]
theorem sadL_len {o : Ori} {k : Nat} : (sadL o k).length ≤ k := by
  unfold sadL; rw [List.length_map]; exact sqL_len
def sadT (o : Ori) (i : Nat) : List SadT := ((sqL o o.1.length).take i).map (sadF o)
theorem sadT_succ {o : Ori} {i : Nat} (h : i < (sqL o o.1.length).length) : sadT o (i + 1) = sadT o i ++ [sadF o (nth (sqL o o.1.length) i)] := by
  unfold sadT; rw [take_succ_nth h, List.map_append]; rfl
theorem sadT_all {o : Ori} : sadT o (sqL o o.1.length).length = sadL o o.1.length := by unfold sadT sadL; rw [List.take_length]
theorem sadT_len {o : Ori} {i : Nat} (h : i ≤ (sqL o o.1.length).length) : (sadT o i).length = i := by unfold sadT; simp; omega
theorem sqL_look {o : Ori} {x : Int} (h : x ∈ sqL o o.1.length) : ∃ i, i < (sqL o o.1.length).length ∧ nth (sqL o o.1.length) i = x ∧ nth (sqs (sqL o o.1.length).length) i = atL (sqL o o.1.length) x ∧ ∀ j, j < i → nth (sqL o o.1.length) j ≠ x := look_at sqL_nodup h
theorem vof_not {o : Ori} (v : Valid o) {x : Int} (hx : Sq o.1.length x) (h : ∀ i, i < (vtx o).length → x ∉ nth (vtx o) i) : False := by
  obtain ⟨i, hi, hm⟩ := vtx_has v hx
  exact h i hi hm
theorem sadN_at {o : Ori} (v : Valid o) {x : Int} (hx : Sq o.1.length x) (h : 0 < ordF o x) {m : Nat} (h1 : 1 ≤ m) (h2 : m ≤ sadN o x) : (ordF o (it o.1 m x) = 0 → m + 1 ≤ sadN o x) ∧ (ordF o (it o.1 m x) ≠ 0 → m = sadN o x) := by
  obtain ⟨a1, a2, a3, a4⟩ := sadN_spec v hx h
  refine ⟨fun e => ?_, fun e => ?_⟩
  · rcases Nat.lt_or_eq_of_le h2 with h3 | h3
    · omega
    · subst h3; omega
  · rcases Nat.lt_or_eq_of_le h2 with h3 | h3
    · exact absurd (a4 m h1 h3) e
    · exact h3
end Go.Fl

/- Equal structs; how many keys a map has. No program in sight. -/
namespace Go.Fl
open Go Go.RowKit
/-- A struct type of k integers at which equality can be asked. -/
class TyInts (P : Program) (t : TypeId) (k : Nat) : Prop where
  grd : P.eqGuardType P.depth t = false
  eq : ∀ (xs : List Int) (w : World), xs.length = k → (Op.equalIn 10000 t (.agg (xs.map (Value.int .i64)).toArray) (.agg (xs.map (Value.int .i64)).toArray)).run P w = .ok true w
def intFld (P : Program) (k : Nat) (f : Field) : Bool := (match P.underlying f.type with | some (.int _) => true | _ => false) && decide (f.offset < k)
theorem eqFields_ints {P : Program} (d : Nat) (xs : List Int) (w : World) : ∀ (fs : List Field), fs.all (intFld P xs.length) = true → (Op.eqFields (d + 1) (xs.map (Value.int .i64)).toArray (xs.map (Value.int .i64)).toArray fs).run P w = .ok true w
  | [], _ => by simp [Op.eqFields]
  | f :: fs, h => by
    rw [List.all_cons, Bool.and_eq_true] at h
    obtain ⟨h1, h2⟩ := h
    have ih := eqFields_ints d xs w fs h2
    unfold intFld at h1
    rw [Bool.and_eq_true, decide_eq_true_eq] at h1
    obtain ⟨h3, h4⟩ := h1
    cases hu : P.underlying f.type with
    | none => rw [hu] at h3; cases h3
    | some td =>
      rw [hu] at h3
      cases td with
      | int k =>
        have hp : (part f.type (xs.map (Value.int .i64)).toArray f.offset).run P w = .ok (.int .i64 xs[f.offset]) w := by
          simp [part, isAgg, run_underlying hu, h4]
        rw [Op.eqFields]
        split
        · simp only [Sem.run_bind, hp, Result.andThen_ok, run_equalIn_int w d f.type .i64 k _ _ hu]
          simp [ih]
        · exact ih
      | _ => cases h3
theorem TyInts.mk' {P : Program} {t : TypeId} {k : Nat} (h1 : P.eqGuardType P.depth t = false) (h2 : P.underlying t = some (.struct (P.fieldsOf t))) (h3 : P.stoodInHeld t = false) (h4 : (P.fieldsOf t).toList.all (intFld P k) = true) : TyInts P t k :=
  ⟨h1, fun xs w hl => by
    subst hl
    rw [show (10000 : Nat) = 9999 + 1 from rfl, run_equalIn_struct w 9999 t _ _ h2 h3]
    exact eqFields_ints 9998 xs w _ h4⟩
section
variable {P : Program} {c : Ctx} {S : Slots} {M : Conts} {p : Bool} {d : Option Tmp} {ty : TypeId} {pos : String} {af : Array Edge} {gd : Option (Nat × Bool)} {x y : Operand} {b b' : Bool}
theorem ok_neqSame {t t' : TypeId} {k : Nat} [ht : TyInts P t k] {α : Type} {e : Enc α} {v : α} (hx : opK S x = some (b, kRd e v)) (hb : p = true → b = true) (hy : opK S y = some (b', kRd e v)) (hb' : p = true → b' = true) (ha : e.agg = true) (xs : List Int) (hl : xs.length = k) (he : ∀ J cs, e.rd J cs v → cs = xs.map (Value.int .i64)) :
    OpOk P c S M ⟨d, .binOp .neq t x y t', ty, pos, af, gd⟩ p (kB false) none :=
  OpOk.pure fun hp a g w _ _ ho => by
    obtain ⟨cs, h1, h2⟩ := ho x (by simp [Op.operands]) b _ hx (hb hp)
    obtain ⟨ds, h3, h4⟩ := ho y (by simp [Op.operands]) b' _ hy (hb' hp)
    obtain rfl := he _ _ h1
    obtain rfl := he _ _ h3
    rw [ha] at h2 h4
    have h2' : a.eval x = .agg (xs.map (Value.int .i64)).toArray := h2
    have h4' : a.eval y = .agg (xs.map (Value.int .i64)).toArray := h4
    refine ⟨.bool false, ?_, rfl⟩
    simp only [execOp, h2', h4', Sem.run_bind, run_eqGuard_agg w _ _ _ _ _ _ ht.grd, Result.andThen_ok, run_neq_struct, ht.eq xs w hl, Sem.run_pure, Bool.not_true]
theorem ok_lenMI {t kt et : TypeId} {td : TypeDesc} [ht : TyMap P t kt et td] {u : Nat} {xs ys : List Int} {dep : List Nat} (hx : opK S x = some (b, kMapP u)) (hb : p = true → b = true) [hl : LkM M u (cMapI xs ys) dep] :
    OpOk P c S M ⟨d, .call { callee := .builtin .len, args := #[x], argTypes := #[t] }, ty, pos, af, gd⟩ p (kI xs.length) none :=
  OpOk.pure fun hp a g w _ hc ho => by
    obtain ⟨bl, cap, hm, he⟩ := ho x (by simp [Op.operands, Call.operands]) b _ hx (hb hp)
    obtain ⟨bk, hm2, h0, _, es, cl, h1, h2, h3⟩ := hc _ hl.mem
    simp only at hm2 h1
    rw [hm] at hm2; cases hm2
    have hlen : es.size = xs.length := by have := congrArg List.length h2; simpa using this
    refine ⟨.int .i64 es.size, ?_, by rw [hlen]; rfl⟩
    simp [execOp, resolve, invoke, builtin, Builtin.len_, he, run_underlying ht.h, MapKept.run_getObj_map h1, goInt]
end
end Go.Fl
