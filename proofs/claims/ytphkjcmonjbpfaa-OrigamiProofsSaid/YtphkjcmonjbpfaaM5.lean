/- THE LAW OrigamiProofs HOLDS FOR EVERY INPUT: whatever the arguments, the call returns true, and each argument reads behind it as before. Conditions: those of the given row (its listed variables as the program lays them). -/
import Derived.Test.YtphkjcmonjbpfaaM4
import Derived.Test.YtphkjcmonjbpfaaRows

/- Contracts: maps that are checked; the law of proofs. -/
namespace Go.Fl
open Go Go.Proofs

set_option maxRecDepth 100000 in
theorem ct_IndexFunc (xs : List Int) (f : FuncId) (q : Int → Bool) [TyFn Try.prog f] (hf : ∀ x, Ct Try.prog f [kI x] (kB (q x))) : Ct Try.prog 126 [kRd (eL eI) xs, kDet (.func (.func f) #[] #[])] (kI (idxF q xs)) := by
  refine Ct.mk Try.func126 rfl Try.ntmps126 rfl (fun w J => ?_)
  refine Tr.fact (s := 0) rfl (fun _ _ h => lenB h) (fun hb => ?_)
  refine Tr.seq ?_
  refine Tr.rg ?_
  refine TrL.op (ok_assign rfl (fun _ => rfl)) rfl rfl ?_
  refine TrL.fin ?_
  refine End.nxt ?_
  refine Tr.seq ?_
  refine Tr.seq ?_
  refine Tr.rg ?_
  refine TrL.op (ok_move rfl (fun _ => rfl)) rfl rfl ?_
  refine TrL.op (ok_lenJ rfl (fun _ => rfl)) rfl rfl ?_
  refine TrL.op (ok_move rfl (fun _ => rfl)) rfl rfl ?_
  refine TrL.fin ?_
  refine End.nxt ?_
  refine Tr.for1 (σ := Nat) [⟨0, true, _, _⟩, ⟨1, true, _, _⟩, ⟨7, true, _, _⟩] [] (fun k => [⟨8, true, [], kI (k : Int)⟩]) (fun k => []) (fun k => k ≤ xs.length ∧ ∀ i, i < k → q (nth xs i) = false) (fun k => ∀ i, i < xs.length → q (nth xs i) = false) (fun k => xs.length - k) (0) ⟨Nat.zero_le _, fun i h => absurd h (by omega)⟩ (Ent.mk (.i rfl (by first | rfl | omega | (simp; done) | (simp; omega) | assumption) <| .k rfl rfl <| .k rfl rfl <| .k rfl rfl <| .nil) (.nil) rfl) ?_ ?_
  · rintro k ⟨hk0, hR0⟩
    refine Tr.norm (S' := [⟨8, true, _, _⟩, ⟨0, true, _, _⟩, ⟨1, true, _, _⟩, ⟨7, true, _, _⟩]) (M' := []) rfl rfl ?_
    refine Tr.seq ?_
    refine Tr.rg ?_
    refine TrL.op (ok_lss rfl (fun _ => rfl) rfl (fun _ => rfl)) rfl rfl ?_
    refine TrL.fin ?_
    refine End.nxt ?_
    refine Tr.seq ?_
    refine Tr.cnd rfl ?_ ?_
    · intro h2
      replace h2 := of_decide_eq_true h2
      refine Tr.skip ?_
      refine End.nxt ?_
      refine Tr.seq ?_
      refine Tr.blk ?_
      refine Tr.seq ?_
      refine Tr.rg ?_
      refine TrL.op (ok_move rfl (fun _ => rfl)) rfl rfl ?_
      refine TrL.op (ok_assign rfl (fun _ => rfl)) rfl rfl ?_
      refine TrL.fin ?_
      refine End.nxt ?_
      refine Tr.seq ?_
      refine Tr.rg ?_
      refine TrL.op (ok_move rfl (fun _ => rfl)) rfl rfl ?_
      refine TrL.op (ok_move rfl (fun _ => rfl)) rfl rfl ?_
      refine TrL.op (ok_move rfl (fun _ => rfl)) rfl rfl ?_
      first | refine TrL.op (ok_idxN rfl (fun _ => rfl) rfl (fun _ => rfl) rfl (fun _ => by omega)) rfl rfl ?_ | refine TrL.op (ok_idxP rfl (fun _ => rfl) rfl (fun _ => rfl) rfl (fun _ => by omega)) rfl rfl ?_
      refine TrL.op (ok_ldP rfl (fun _ => rfl) rfl) rfl rfl ?_
      refine TrL.op (ok_callV rfl (fun _ => rfl) (fun hp => hf _) (.a rfl (fun _ => rfl) <| .nil)) rfl rfl ?_
      refine TrL.fin ?_
      refine End.nxt ?_
      refine Tr.cnd rfl ?_ ?_
      · intro h4
        refine Tr.seq ?_
        refine Tr.rg ?_
        refine TrL.op (ok_move rfl (fun _ => rfl)) rfl rfl ?_
        refine TrL.op (ok_assign rfl (fun _ => rfl)) rfl rfl ?_
        refine TrL.fin ?_
        refine End.nxt ?_
        refine Tr.ret ?_
        refine Rts.out ?_
        refine Rts.thn ?_
        refine Rts.thn ?_
        refine Rts.out ?_
        refine Rts.thn ?_
        refine Rts.thn ?_
        exact Rts.res1 (fn := Try.f126) rfl (.i rfl (idxF_at (by omega) hR0 h4) <| .nil)
      · intro h4
        refine Tr.skip ?_
        refine End.blk ?_
        refine End.nxt ?_
        refine Tr.rg ?_
        refine TrL.op (ok_add rfl (fun _ => rfl) rfl (fun _ => rfl) (fun _ => by omega)) rfl rfl ?_
        refine TrL.op (ok_move rfl (fun _ => rfl)) rfl rfl ?_
        refine TrL.fin ?_
        exact End.lp (k + 1) ⟨by omega, all_succ hR0 h4⟩ (by omega) (Ent.mk (.i rfl (by first | rfl | omega | (simp; done) | (simp; omega) | assumption) <| .k rfl rfl <| .k rfl rfl <| .k rfl rfl <| .nil) (.nil) rfl)
    · intro h2
      replace h2 := Int.not_lt.1 (of_decide_eq_false h2)
      refine Tr.exit ?_
      refine Exs.thn ?_
      refine Exs.thn ?_
      refine Exs.here ?_
      exact End.cut (k) (fun i hi => hR0 i (by omega)) (Ent.mk (.i rfl (by first | rfl | omega | (simp; done) | (simp; omega) | assumption) <| .k rfl rfl <| .k rfl rfl <| .k rfl rfl <| .nil) (.nil) rfl)
  · intro k hE0
    refine End.norm (S' := [⟨8, true, _, _⟩, ⟨0, true, _, _⟩, ⟨1, true, _, _⟩, ⟨7, true, _, _⟩]) (M' := []) rfl rfl ?_
    refine End.nxt ?_
    refine Tr.seq ?_
    refine Tr.rg ?_
    refine TrL.op (ok_assign rfl (fun _ => rfl)) rfl rfl ?_
    refine TrL.fin ?_
    refine End.nxt ?_
    refine Tr.ret ?_
    exact Rts.res1 (fn := Try.f126) rfl (.i rfl (idxF_none hE0) <| .nil)

set_option maxRecDepth 100000 in
theorem ct_IndexB (xs : List Bool) (v : Bool) : Ct Try.prog 130 [kRd (eL eBool) xs, kB v] (kI (idxF (fun x => decide (v = x)) xs)) := by
  refine Ct.mk Try.func130 rfl Try.ntmps130 rfl (fun w J => ?_)
  refine Tr.fact (s := 0) rfl (fun _ _ h => lenB h) (fun hb => ?_)
  refine Tr.seq ?_
  refine Tr.rg ?_
  refine TrL.op (ok_assign rfl (fun _ => rfl)) rfl rfl ?_
  refine TrL.fin ?_
  refine End.nxt ?_
  refine Tr.seq ?_
  refine Tr.seq ?_
  refine Tr.rg ?_
  refine TrL.op (ok_move rfl (fun _ => rfl)) rfl rfl ?_
  refine TrL.op (ok_lenJ rfl (fun _ => rfl)) rfl rfl ?_
  refine TrL.op (ok_move rfl (fun _ => rfl)) rfl rfl ?_
  refine TrL.fin ?_
  refine End.nxt ?_
  refine Tr.for1 (σ := Nat) [⟨0, true, _, _⟩, ⟨1, true, _, _⟩, ⟨7, true, _, _⟩] [] (fun k => [⟨8, true, [], kI (k : Int)⟩]) (fun k => []) (fun k => k ≤ xs.length ∧ ∀ i, i < k → (fun x => decide (v = x)) (nth xs i) = false) (fun k => ∀ i, i < xs.length → (fun x => decide (v = x)) (nth xs i) = false) (fun k => xs.length - k) (0) ⟨Nat.zero_le _, fun i h => absurd h (by omega)⟩ (Ent.mk (.i rfl (by first | rfl | omega | (simp; done) | (simp; omega) | assumption) <| .k rfl rfl <| .k rfl rfl <| .k rfl rfl <| .nil) (.nil) rfl) ?_ ?_
  · rintro k ⟨hk0, hR0⟩
    refine Tr.norm (S' := [⟨8, true, _, _⟩, ⟨0, true, _, _⟩, ⟨1, true, _, _⟩, ⟨7, true, _, _⟩]) (M' := []) rfl rfl ?_
    refine Tr.seq ?_
    refine Tr.rg ?_
    refine TrL.op (ok_lss rfl (fun _ => rfl) rfl (fun _ => rfl)) rfl rfl ?_
    refine TrL.fin ?_
    refine End.nxt ?_
    refine Tr.seq ?_
    refine Tr.cnd rfl ?_ ?_
    · intro h2
      replace h2 := of_decide_eq_true h2
      refine Tr.skip ?_
      refine End.nxt ?_
      refine Tr.seq ?_
      refine Tr.blk ?_
      refine Tr.seq ?_
      refine Tr.rg ?_
      refine TrL.op (ok_move rfl (fun _ => rfl)) rfl rfl ?_
      refine TrL.op (ok_assign rfl (fun _ => rfl)) rfl rfl ?_
      refine TrL.fin ?_
      refine End.nxt ?_
      refine Tr.seq ?_
      refine Tr.rg ?_
      refine TrL.op (ok_move rfl (fun _ => rfl)) rfl rfl ?_
      refine TrL.op (ok_move rfl (fun _ => rfl)) rfl rfl ?_
      refine TrL.op (ok_move rfl (fun _ => rfl)) rfl rfl ?_
      first | refine TrL.op (ok_idxN rfl (fun _ => rfl) rfl (fun _ => rfl) rfl (fun _ => by omega)) rfl rfl ?_ | refine TrL.op (ok_idxP rfl (fun _ => rfl) rfl (fun _ => rfl) rfl (fun _ => by omega)) rfl rfl ?_
      refine TrL.op (ok_ldP rfl (fun _ => rfl) rfl) rfl rfl ?_
      refine TrL.op (ok_eqlB rfl (fun _ => rfl) rfl (fun _ => rfl)) rfl rfl ?_
      refine TrL.fin ?_
      refine End.nxt ?_
      refine Tr.cnd rfl ?_ ?_
      · intro h4
        refine Tr.seq ?_
        refine Tr.rg ?_
        refine TrL.op (ok_move rfl (fun _ => rfl)) rfl rfl ?_
        refine TrL.op (ok_assign rfl (fun _ => rfl)) rfl rfl ?_
        refine TrL.fin ?_
        refine End.nxt ?_
        refine Tr.ret ?_
        refine Rts.out ?_
        refine Rts.thn ?_
        refine Rts.thn ?_
        refine Rts.out ?_
        refine Rts.thn ?_
        refine Rts.thn ?_
        exact Rts.res1 (fn := Try.f130) rfl (.i rfl (idxF_at (q := fun x => decide (v = x)) (by omega) hR0 h4) <| .nil)
      · intro h4
        refine Tr.skip ?_
        refine End.blk ?_
        refine End.nxt ?_
        refine Tr.rg ?_
        refine TrL.op (ok_add rfl (fun _ => rfl) rfl (fun _ => rfl) (fun _ => by omega)) rfl rfl ?_
        refine TrL.op (ok_move rfl (fun _ => rfl)) rfl rfl ?_
        refine TrL.fin ?_
        exact End.lp (k + 1) ⟨by omega, all_succ hR0 h4⟩ (by omega) (Ent.mk (.i rfl (by first | rfl | omega | (simp; done) | (simp; omega) | assumption) <| .k rfl rfl <| .k rfl rfl <| .k rfl rfl <| .nil) (.nil) rfl)
    · intro h2
      replace h2 := Int.not_lt.1 (of_decide_eq_false h2)
      refine Tr.exit ?_
      refine Exs.thn ?_
      refine Exs.thn ?_
      refine Exs.here ?_
      exact End.cut (k) (fun i hi => hR0 i (by omega)) (Ent.mk (.i rfl (by first | rfl | omega | (simp; done) | (simp; omega) | assumption) <| .k rfl rfl <| .k rfl rfl <| .k rfl rfl <| .nil) (.nil) rfl)
  · intro k hE0
    refine End.norm (S' := [⟨8, true, _, _⟩, ⟨0, true, _, _⟩, ⟨1, true, _, _⟩, ⟨7, true, _, _⟩]) (M' := []) rfl rfl ?_
    refine End.nxt ?_
    refine Tr.seq ?_
    refine Tr.rg ?_
    refine TrL.op (ok_assign rfl (fun _ => rfl)) rfl rfl ?_
    refine TrL.fin ?_
    refine End.nxt ?_
    refine Tr.ret ?_
    exact Rts.res1 (fn := Try.f130) rfl (.i rfl (idxF_none (q := fun x => decide (v = x)) hE0) <| .nil)

set_option maxRecDepth 100000 in
theorem ct_ContainsB (xs : List Bool) (v : Bool) : Ct Try.prog 119 [kRd (eL eBool) xs, kB v] (kB (xs.any fun x => decide (v = x))) := by
  refine Ct.mk Try.func119 rfl Try.ntmps119 rfl (fun w J => ?_)
  refine Tr.seq ?_
  refine Tr.rg ?_
  refine TrL.op (ok_assign rfl (fun _ => rfl)) rfl rfl ?_
  refine TrL.fin ?_
  refine End.nxt ?_
  refine Tr.seq ?_
  refine Tr.rg ?_
  refine TrL.op (ok_move rfl (fun _ => rfl)) rfl rfl ?_
  refine TrL.op (ok_move rfl (fun _ => rfl)) rfl rfl ?_
  refine TrL.op (ok_call (fun hp => ct_IndexB _ _) (.a rfl (fun _ => rfl) <| .a rfl (fun _ => rfl) <| .nil)) rfl rfl ?_
  refine TrL.op (ok_geq rfl (fun _ => rfl) rfl (fun _ => rfl)) rfl rfl ?_
  refine TrL.op (ok_assign rfl (fun _ => rfl)) rfl rfl ?_
  refine TrL.fin ?_
  refine End.nxt ?_
  refine Tr.ret ?_
  exact Rts.res1 (fn := Try.f119) rfl (.b rfl idxF_nonneg <| .nil)

set_option maxRecDepth 100000 in
set_option maxHeartbeats 1000000 in
theorem ct_rIsMap (a b : Ori) (f : List Int) (va : Valid a) (vb : Valid b) (hl : f.length = a.1.length) (hr : inR f b.1.length) : Ct Try.prog 93 [kRd eO a, kRd eO b, kRd (eL eI) f] (kB (isMapB a b f)) := by
  have hva := va.len
  have hvb := vb.len
  have hvl := va.le
  refine Ct.mk Try.func93 rfl Try.ntmps93 rfl (fun w J => ?_)
  refine Tr.seq ?_
  refine Tr.rg ?_
  refine TrL.new (ok_box 3 rfl (fun _ => rfl) rfl) rfl rfl rfl rfl ?_
  refine TrL.new (ok_box 4 rfl (fun _ => rfl) rfl) rfl rfl rfl rfl ?_
  refine TrL.op (ok_assign rfl (fun _ => rfl)) rfl rfl ?_
  refine TrL.fin ?_
  refine End.nxt ?_
  refine Tr.seq ?_
  refine Tr.seq ?_
  refine Tr.rg ?_
  refine TrL.op (ok_assign rfl (fun _ => rfl)) rfl rfl ?_
  refine TrL.fin ?_
  refine End.nxt ?_
  refine Tr.for1 (σ := Nat) [⟨2, true, _, _⟩, ⟨3, true, _, _⟩, ⟨4, true, _, _⟩] [⟨3, _, _⟩, ⟨4, _, _⟩] (fun k => [⟨7, true, [], kI (k : Int)⟩]) (fun k => []) (fun k => k ≤ a.1.length ∧ ∀ i, i < k → (ap f (nth a.1 i) = ap b.1 (nth f i) ∧ ap f (nth a.2 i) = ap b.2 (nth f i))) (fun k => ∀ i, i < a.1.length → (ap f (nth a.1 i) = ap b.1 (nth f i) ∧ ap f (nth a.2 i) = ap b.2 (nth f i))) (fun k => a.1.length - k) (0) ⟨Nat.zero_le _, fun i h => absurd h (by omega)⟩ (Ent.mk (.i rfl (by first | rfl | omega | (simp; done) | (simp; omega) | assumption) <| .k rfl rfl <| .k rfl rfl <| .k rfl rfl <| .nil) (.k rfl <| .k rfl <| .nil) rfl) ?_ ?_
  · rintro k ⟨hk0, hR0⟩
    refine Tr.norm (S' := [⟨7, true, _, _⟩, ⟨2, true, _, _⟩, ⟨3, true, _, _⟩, ⟨4, true, _, _⟩]) (M' := [⟨3, _, _⟩, ⟨4, _, _⟩]) rfl rfl ?_
    refine Tr.seq ?_
    refine Tr.seq ?_
    refine Tr.rg ?_
    refine TrL.op (ok_move rfl (fun _ => rfl)) rfl rfl ?_
    refine TrL.op (ok_ldBS rfl (fun _ => rfl)) rfl rfl ?_
    refine TrL.op (ok_call (fun hp => ct_rSize _) (.s rfl (fun _ => rfl) rfl <| .nil)) rfl rfl ?_
    refine TrL.op (ok_lss rfl (fun _ => rfl) rfl (fun _ => rfl)) rfl rfl ?_
    refine TrL.fin ?_
    refine End.nxt ?_
    refine Tr.cnd rfl ?_ ?_
    · intro h2
      replace h2 := of_decide_eq_true h2
      refine Tr.skip ?_
      refine End.nxt ?_
      refine Tr.seq ?_
      refine Tr.blk ?_
      refine Tr.seq ?_
      refine Tr.draw 34 mixed (by kernel_rfl) ?_
      have a1 := va.ri (i := k) (by omega)
      have a2 := va.ui (i := k) (by omega)
      have a3 := hr k (by omega)
      have a4 := hr (nth a.1 k).toNat (by omega)
      have a5 := hr (nth a.2 k).toNat (by omega)
      refine RunD.op (ok_move rfl (fun _ => rfl)) rfl rfl ?_
      refine RunD.op (ok_fldO rfl (fun _ => rfl)) rfl rfl ?_
      refine RunD.op (ok_ldB rfl (fun _ => rfl) rfl) rfl rfl ?_
      refine RunD.op (ok_move rfl (fun _ => rfl)) rfl rfl ?_
      first | refine RunD.op (ok_idxN rfl (fun _ => rfl) rfl (fun _ => rfl) rfl (fun _ => by omega)) rfl rfl ?_ | refine RunD.op (ok_idxP rfl (fun _ => rfl) rfl (fun _ => rfl) rfl (fun _ => by omega)) rfl rfl ?_
      refine RunD.op (ok_ldP rfl (fun _ => rfl) rfl) rfl rfl ?_
      first | refine RunD.op (ok_idxN rfl (fun _ => rfl) rfl (fun _ => rfl) rfl (fun _ => by omega)) rfl rfl ?_ | refine RunD.op (ok_idxP rfl (fun _ => rfl) rfl (fun _ => rfl) rfl (fun _ => by omega)) rfl rfl ?_
      refine RunD.op (ok_ldP rfl (fun _ => rfl) rfl) rfl rfl ?_
      refine RunD.op (ok_fldO rfl (fun _ => rfl)) rfl rfl ?_
      refine RunD.op (ok_ldB rfl (fun _ => rfl) rfl) rfl rfl ?_
      refine RunD.op (ok_move rfl (fun _ => rfl)) rfl rfl ?_
      refine RunD.op (ok_move rfl (fun _ => rfl)) rfl rfl ?_
      first | refine RunD.op (ok_idxN rfl (fun _ => rfl) rfl (fun _ => rfl) rfl (fun _ => by omega)) rfl rfl ?_ | refine RunD.op (ok_idxP rfl (fun _ => rfl) rfl (fun _ => rfl) rfl (fun _ => by omega)) rfl rfl ?_
      refine RunD.op (ok_ldP rfl (fun _ => rfl) rfl) rfl rfl ?_
      first | refine RunD.op (ok_idxN rfl (fun _ => rfl) rfl (fun _ => rfl) rfl (fun _ => by omega)) rfl rfl ?_ | refine RunD.op (ok_idxP rfl (fun _ => rfl) rfl (fun _ => rfl) rfl (fun _ => by omega)) rfl rfl ?_
      refine RunD.op (ok_ldP rfl (fun _ => rfl) rfl) rfl rfl ?_
      refine RunD.op (ok_neq rfl (fun _ => rfl) rfl (fun _ => rfl)) rfl rfl ?_
      refine RunD.op (ok_move rfl (fun _ => rfl)) rfl rfl ?_
      refine RunD.gd rfl rfl rfl (ok_move rfl (fun _ => rfl)) rfl rfl ?_
      refine RunD.gd rfl rfl rfl (ok_fldO rfl (fun _ => rfl)) rfl rfl ?_
      refine RunD.gd rfl rfl rfl (ok_ldB rfl id rfl) rfl rfl ?_
      refine RunD.gd rfl rfl rfl (ok_move rfl (fun _ => rfl)) rfl rfl ?_
      first | refine RunD.gd rfl rfl rfl (ok_idxN rfl id rfl id rfl (fun hp => by simp at hp; omega)) rfl rfl ?_ | refine RunD.gd rfl rfl rfl (ok_idxP rfl id rfl id rfl (fun hp => by simp at hp; omega)) rfl rfl ?_
      refine RunD.gd rfl rfl rfl (ok_ldP rfl id rfl) rfl rfl ?_
      first | refine RunD.gd rfl rfl rfl (ok_idxN rfl id rfl id rfl (fun hp => by simp at hp; omega)) rfl rfl ?_ | refine RunD.gd rfl rfl rfl (ok_idxP rfl id rfl id rfl (fun hp => by simp at hp; omega)) rfl rfl ?_
      refine RunD.gd rfl rfl rfl (ok_ldP rfl id rfl) rfl rfl ?_
      refine RunD.gd rfl rfl rfl (ok_fldO rfl (fun _ => rfl)) rfl rfl ?_
      refine RunD.gd rfl rfl rfl (ok_ldB rfl id rfl) rfl rfl ?_
      refine RunD.gd rfl rfl rfl (ok_move rfl (fun _ => rfl)) rfl rfl ?_
      refine RunD.gd rfl rfl rfl (ok_move rfl (fun _ => rfl)) rfl rfl ?_
      first | refine RunD.gd rfl rfl rfl (ok_idxN rfl id rfl id rfl (fun hp => by simp at hp; omega)) rfl rfl ?_ | refine RunD.gd rfl rfl rfl (ok_idxP rfl id rfl id rfl (fun hp => by simp at hp; omega)) rfl rfl ?_
      refine RunD.gd rfl rfl rfl (ok_ldP rfl id rfl) rfl rfl ?_
      first | refine RunD.gd rfl rfl rfl (ok_idxN rfl id rfl id rfl (fun hp => by simp at hp; omega)) rfl rfl ?_ | refine RunD.gd rfl rfl rfl (ok_idxP rfl id rfl id rfl (fun hp => by simp at hp; omega)) rfl rfl ?_
      refine RunD.gd rfl rfl rfl (ok_ldP rfl id rfl) rfl rfl ?_
      refine RunD.z ?_
      refine TrL.gd rfl rfl rfl (ok_neq rfl id rfl id) rfl rfl ?_
      refine TrL.op (ok_or rfl (fun _ => rfl) rfl (fun hp h => gdF2 ((fun _ => rfl) hp) h)) rfl rfl ?_
      refine TrL.fin ?_
      refine End.nxt ?_
      refine Tr.cnd rfl ?_ ?_
      · intro h4
        refine Tr.seq ?_
        refine Tr.rg ?_
        refine TrL.op (ok_assign rfl (fun _ => rfl)) rfl rfl ?_
        refine TrL.fin ?_
        refine End.nxt ?_
        refine Tr.ret ?_
        refine Rts.out ?_
        refine Rts.thn ?_
        refine Rts.thn ?_
        refine Rts.out ?_
        refine Rts.thn ?_
        refine Rts.thn ?_
        exact Rts.res1 (fn := Try.f93) rfl (.b rfl (isMapB_not (k := k) (by omega) (by unfold ap; simp at h4; intro hh; rcases h4 with h | h; exact h hh.1; exact h hh.2)).symm <| .nil)
      · intro h4
        refine Tr.skip ?_
        refine End.blk ?_
        refine End.nxt ?_
        refine Tr.rg ?_
        refine TrL.op (ok_move rfl (fun _ => rfl)) rfl rfl ?_
        refine TrL.op (ok_add rfl (fun _ => rfl) rfl (fun _ => rfl) (fun _ => by omega)) rfl rfl ?_
        refine TrL.op (ok_assign rfl (fun _ => rfl)) rfl rfl ?_
        refine TrL.fin ?_
        exact End.lp (k + 1) ⟨by omega, all_succ hR0 (by unfold ap; simp at h4; exact h4)⟩ (by omega) (Ent.mk (.i rfl (by first | rfl | omega | (simp; done) | (simp; omega) | assumption) <| .k rfl rfl <| .k rfl rfl <| .k rfl rfl <| .nil) (.k rfl <| .k rfl <| .nil) rfl)
    · intro h2
      replace h2 := Int.not_lt.1 (of_decide_eq_false h2)
      refine Tr.exit ?_
      refine Exs.thn ?_
      refine Exs.thn ?_
      refine Exs.here ?_
      exact End.cut (k) (fun i hi => hR0 i (by omega)) (Ent.mk (.i rfl (by first | rfl | omega | (simp; done) | (simp; omega) | assumption) <| .k rfl rfl <| .k rfl rfl <| .k rfl rfl <| .nil) (.k rfl <| .k rfl <| .nil) rfl)
  · intro k hE0
    refine End.norm (S' := [⟨7, true, _, _⟩, ⟨2, true, _, _⟩, ⟨3, true, _, _⟩, ⟨4, true, _, _⟩]) (M' := [⟨3, _, _⟩, ⟨4, _, _⟩]) rfl rfl ?_
    refine End.nxt ?_
    refine Tr.seq ?_
    refine Tr.rg ?_
    refine TrL.op (ok_assign rfl (fun _ => rfl)) rfl rfl ?_
    refine TrL.fin ?_
    refine End.nxt ?_
    refine Tr.ret ?_
    exact Rts.res1 (fn := Try.f93) rfl (.b rfl (isMapB_all hE0).symm <| .nil)

set_option maxRecDepth 100000 in
theorem ct_rOnto (b : Ori) (f : List Int) (vb : Valid b) : Ct Try.prog 94 [kRd eO b, kRd (eL eI) f] (kB (ontoB b.1.length f)) := by
  have hvl := vb.le
  refine Ct.mk Try.func94 rfl Try.ntmps94 rfl (fun w J => ?_)
  refine Tr.seq ?_
  refine Tr.rg ?_
  refine TrL.new (ok_box 2 rfl (fun _ => rfl) rfl) rfl rfl rfl rfl ?_
  refine TrL.op (ok_assign rfl (fun _ => rfl)) rfl rfl ?_
  refine TrL.fin ?_
  refine End.nxt ?_
  refine Tr.seq ?_
  refine Tr.seq ?_
  refine Tr.rg ?_
  refine TrL.op (ok_assign rfl (fun _ => rfl)) rfl rfl ?_
  refine TrL.fin ?_
  refine End.nxt ?_
  refine Tr.for1 (σ := Nat) [⟨1, true, _, _⟩, ⟨2, true, _, _⟩] [⟨2, _, _⟩] (fun k => [⟨5, true, [], kI (k : Int)⟩]) (fun k => []) (fun k => k ≤ b.1.length ∧ ∀ i, i < k → ((i : Nat) : Int) ∈ f) (fun k => ∀ i, i < b.1.length → ((i : Nat) : Int) ∈ f) (fun k => b.1.length - k) (0) ⟨Nat.zero_le _, fun i h => absurd h (by omega)⟩ (Ent.mk (.i rfl (by first | rfl | omega | (simp; done) | (simp; omega) | assumption) <| .k rfl rfl <| .k rfl rfl <| .nil) (.k rfl <| .nil) rfl) ?_ ?_
  · rintro k ⟨hk0, hR0⟩
    refine Tr.norm (S' := [⟨5, true, _, _⟩, ⟨1, true, _, _⟩, ⟨2, true, _, _⟩]) (M' := [⟨2, _, _⟩]) rfl rfl ?_
    refine Tr.seq ?_
    refine Tr.seq ?_
    refine Tr.rg ?_
    refine TrL.op (ok_move rfl (fun _ => rfl)) rfl rfl ?_
    refine TrL.op (ok_ldBS rfl (fun _ => rfl)) rfl rfl ?_
    refine TrL.op (ok_call (fun hp => ct_rSize _) (.s rfl (fun _ => rfl) rfl <| .nil)) rfl rfl ?_
    refine TrL.op (ok_lss rfl (fun _ => rfl) rfl (fun _ => rfl)) rfl rfl ?_
    refine TrL.fin ?_
    refine End.nxt ?_
    refine Tr.cnd rfl ?_ ?_
    · intro h2
      replace h2 := of_decide_eq_true h2
      refine Tr.skip ?_
      refine End.nxt ?_
      refine Tr.seq ?_
      refine Tr.blk ?_
      refine Tr.seq ?_
      refine Tr.rg ?_
      refine TrL.op (ok_move rfl (fun _ => rfl)) rfl rfl ?_
      refine TrL.op (ok_move rfl (fun _ => rfl)) rfl rfl ?_
      refine TrL.op (ok_call (fun hp => ct_rAt _ _) (.a rfl (fun _ => rfl) <| .a rfl (fun _ => rfl) <| .nil)) rfl rfl ?_
      refine TrL.op (ok_lss rfl (fun _ => rfl) rfl (fun _ => rfl)) rfl rfl ?_
      refine TrL.fin ?_
      refine End.nxt ?_
      refine Tr.cnd rfl ?_ ?_
      · intro h4
        replace h4 := of_decide_eq_true h4
        refine Tr.seq ?_
        refine Tr.rg ?_
        refine TrL.op (ok_assign rfl (fun _ => rfl)) rfl rfl ?_
        refine TrL.fin ?_
        refine End.nxt ?_
        refine Tr.ret ?_
        refine Rts.out ?_
        refine Rts.thn ?_
        refine Rts.thn ?_
        refine Rts.out ?_
        refine Rts.thn ?_
        refine Rts.thn ?_
        exact Rts.res1 (fn := Try.f94) rfl (.b rfl (ontoB_not (k := k) (by omega) (atL_neg.1 h4)).symm <| .nil)
      · intro h4
        replace h4 := Int.not_lt.1 (of_decide_eq_false h4)
        refine Tr.skip ?_
        refine End.blk ?_
        refine End.nxt ?_
        refine Tr.rg ?_
        refine TrL.op (ok_move rfl (fun _ => rfl)) rfl rfl ?_
        refine TrL.op (ok_add rfl (fun _ => rfl) rfl (fun _ => rfl) (fun _ => by omega)) rfl rfl ?_
        refine TrL.op (ok_assign rfl (fun _ => rfl)) rfl rfl ?_
        refine TrL.fin ?_
        exact End.lp (k + 1) ⟨by omega, all_succ hR0 (Classical.not_not.1 (fun hh => absurd (atL_neg.2 hh) (by omega)))⟩ (by omega) (Ent.mk (.i rfl (by first | rfl | omega | (simp; done) | (simp; omega) | assumption) <| .k rfl rfl <| .k rfl rfl <| .nil) (.k rfl <| .nil) rfl)
    · intro h2
      replace h2 := Int.not_lt.1 (of_decide_eq_false h2)
      refine Tr.exit ?_
      refine Exs.thn ?_
      refine Exs.thn ?_
      refine Exs.here ?_
      exact End.cut (k) (fun i hi => hR0 i (by omega)) (Ent.mk (.i rfl (by first | rfl | omega | (simp; done) | (simp; omega) | assumption) <| .k rfl rfl <| .k rfl rfl <| .nil) (.k rfl <| .nil) rfl)
  · intro k hE0
    refine End.norm (S' := [⟨5, true, _, _⟩, ⟨1, true, _, _⟩, ⟨2, true, _, _⟩]) (M' := [⟨2, _, _⟩]) rfl rfl ?_
    refine End.nxt ?_
    refine Tr.seq ?_
    refine Tr.rg ?_
    refine TrL.op (ok_assign rfl (fun _ => rfl)) rfl rfl ?_
    refine TrL.fin ?_
    refine End.nxt ?_
    refine Tr.ret ?_
    exact Rts.res1 (fn := Try.f94) rfl (.b rfl (ontoB_all hE0).symm <| .nil)

set_option maxRecDepth 100000 in
theorem ct_rCheckMap (a b : Ori) (f : List Int) (same : Bool) : Ct Try.prog 45 [kRd eO a, kRd eO b, kRd (eL eI) f, kB same] (kI (cmE a b f same)) := by
  refine Ct.mk Try.func45 rfl Try.ntmps45 rfl (fun w J => ?_)
  refine Tr.fact (s := 2) rfl (fun _ _ h => lenB h) (fun hb => ?_)
  refine Tr.seq ?_
  refine Tr.rg ?_
  refine TrL.new (ok_box 4 rfl (fun _ => rfl) rfl) rfl rfl rfl rfl ?_
  refine TrL.new (ok_box 5 rfl (fun _ => rfl) rfl) rfl rfl rfl rfl ?_
  refine TrL.op (ok_assign rfl (fun _ => rfl)) rfl rfl ?_
  refine TrL.fin ?_
  refine End.nxt ?_
  refine Tr.seq ?_
  refine Tr.seq ?_
  refine Tr.rg ?_
  refine TrL.op (ok_ldBS rfl (fun _ => rfl)) rfl rfl ?_
  refine TrL.op (ok_call (fun hp => ct_rCheck _) (.s rfl (fun _ => rfl) rfl <| .nil)) rfl rfl ?_
  refine TrL.op (ok_assign rfl (fun _ => rfl)) rfl rfl ?_
  refine TrL.fin ?_
  refine End.nxt ?_
  refine Tr.seq ?_
  refine Tr.rg ?_
  refine TrL.op (ok_move rfl (fun _ => rfl)) rfl rfl ?_
  refine TrL.op (ok_neq rfl (fun _ => rfl) rfl (fun _ => rfl)) rfl rfl ?_
  refine TrL.fin ?_
  refine End.nxt ?_
  refine Tr.cnd rfl ?_ ?_
  · intro h2
    replace h2 := of_decide_eq_true h2
    refine Tr.seq ?_
    refine Tr.rg ?_
    refine TrL.op (ok_move rfl (fun _ => rfl)) rfl rfl ?_
    refine TrL.op (ok_assign rfl (fun _ => rfl)) rfl rfl ?_
    refine TrL.fin ?_
    refine End.nxt ?_
    refine Tr.ret ?_
    refine Rts.thn ?_
    exact Rts.res1 (fn := Try.f45) rfl (.i rfl (cmE_a h2).symm <| .nil)
  · intro h2
    replace h2 := Classical.not_not.1 (of_decide_eq_false h2)
    have va : Valid a := valid_of h2
    refine Tr.skip ?_
    refine End.nxt ?_
    refine Tr.seq ?_
    refine Tr.seq ?_
    refine Tr.rg ?_
    refine TrL.op (ok_ldBS rfl (fun _ => rfl)) rfl rfl ?_
    refine TrL.op (ok_call (fun hp => ct_rCheck _) (.s rfl (fun _ => rfl) rfl <| .nil)) rfl rfl ?_
    refine TrL.op (ok_assign rfl (fun _ => rfl)) rfl rfl ?_
    refine TrL.fin ?_
    refine End.nxt ?_
    refine Tr.seq ?_
    refine Tr.rg ?_
    refine TrL.op (ok_move rfl (fun _ => rfl)) rfl rfl ?_
    refine TrL.op (ok_neq rfl (fun _ => rfl) rfl (fun _ => rfl)) rfl rfl ?_
    refine TrL.fin ?_
    refine End.nxt ?_
    refine Tr.cnd rfl ?_ ?_
    · intro h5
      replace h5 := of_decide_eq_true h5
      refine Tr.seq ?_
      refine Tr.rg ?_
      refine TrL.op (ok_move rfl (fun _ => rfl)) rfl rfl ?_
      refine TrL.op (ok_assign rfl (fun _ => rfl)) rfl rfl ?_
      refine TrL.fin ?_
      refine End.nxt ?_
      refine Tr.ret ?_
      refine Rts.thn ?_
      exact Rts.res1 (fn := Try.f45) rfl (.i rfl (cmE_b h2 h5).symm <| .nil)
    · intro h5
      replace h5 := Classical.not_not.1 (of_decide_eq_false h5)
      have vb : Valid b := valid_of h5
      have hvl := va.le
      have hvl2 := vb.le
      refine Tr.skip ?_
      refine End.nxt ?_
      refine Tr.seq ?_
      refine Tr.seq ?_
      refine Tr.draw 11 mixed (by kernel_rfl) ?_
      refine RunD.op (ok_move rfl (fun _ => rfl)) rfl rfl ?_
      refine RunD.op (ok_lenJ rfl (fun _ => rfl)) rfl rfl ?_
      refine RunD.op (ok_ldBS rfl (fun _ => rfl)) rfl rfl ?_
      refine RunD.op (ok_call (fun hp => ct_rSize _) (.s rfl (fun _ => rfl) rfl <| .nil)) rfl rfl ?_
      refine RunD.op (ok_neq rfl (fun _ => rfl) rfl (fun _ => rfl)) rfl rfl ?_
      refine RunD.op (ok_move rfl (fun _ => rfl)) rfl rfl ?_
      refine RunD.gd rfl rfl rfl (ok_move rfl (fun _ => rfl)) rfl rfl ?_
      refine RunD.gd rfl rfl rfl (ok_move rfl id) rfl rfl ?_
      refine RunD.gd rfl rfl rfl (ok_ldBS rfl (fun _ => rfl)) rfl rfl ?_
      refine RunD.gd rfl rfl rfl (ok_call (fun hp => ct_rSize _) (.s rfl id rfl <| .nil)) rfl rfl ?_
      refine RunD.gd rfl rfl rfl (ok_ldBS rfl (fun _ => rfl)) rfl rfl ?_
      refine RunD.z ?_
      refine TrL.gd rfl rfl rfl (ok_call (fun hp => ct_rSize _) (.s rfl id rfl <| .nil)) rfl rfl ?_
      refine TrL.gd rfl rfl rfl (ok_neq rfl id rfl id) rfl rfl ?_
      refine TrL.gd rfl rfl rfl (ok_and rfl id rfl (fun hp h => gdT2 (id hp) h)) rfl rfl ?_
      refine TrL.op (ok_or rfl (fun _ => rfl) rfl (fun hp h => gdF2 ((fun _ => rfl) hp) h)) rfl rfl ?_
      refine TrL.fin ?_
      refine End.nxt ?_
      refine Tr.cnd rfl ?_ ?_
      · intro h7
        rw [shp1] at h7
        have hs := of_decide_eq_true h7
        refine Tr.seq ?_
        refine Tr.rg ?_
        refine TrL.op (ok_assign rfl (fun _ => rfl)) rfl rfl ?_
        refine TrL.fin ?_
        refine End.nxt ?_
        refine Tr.ret ?_
        refine Rts.thn ?_
        exact Rts.res1 (fn := Try.f45) rfl (.i rfl (cmE_s h2 h5 hs).symm <| .nil)
      · intro h7
        rw [shp1] at h7
        have hs := of_decide_eq_false h7
        have hfl : f.length = a.1.length := Classical.byContradiction fun hh => hs (.inl hh)
        refine Tr.skip ?_
        refine End.nxt ?_
        refine Tr.seq ?_
        refine Tr.seq ?_
        refine Tr.rg ?_
        refine TrL.op (ok_assign rfl (fun _ => rfl)) rfl rfl ?_
        refine TrL.fin ?_
        refine End.nxt ?_
        refine Tr.for1 (σ := Nat) [⟨2, true, _, _⟩, ⟨4, true, _, _⟩, ⟨5, true, _, _⟩] [⟨4, _, _⟩, ⟨5, _, _⟩] (fun k => [⟨11, true, [], kI (k : Int)⟩]) (fun k => []) (fun k => k ≤ f.length ∧ ∀ i, i < k → 0 ≤ nth f i ∧ nth f i < b.1.length) (fun k => inR f b.1.length) (fun k => f.length - k) (0) ⟨Nat.zero_le _, fun i h => absurd h (by omega)⟩ (Ent.mk (.i rfl (by first | rfl | omega | (simp; done) | (simp; omega) | assumption) <| .k rfl rfl <| .k rfl rfl <| .k rfl rfl <| .nil) (.k rfl <| .k rfl <| .nil) rfl) ?_ ?_
        · rintro k ⟨hk0, hR0⟩
          refine Tr.norm (S' := [⟨11, true, _, _⟩, ⟨2, true, _, _⟩, ⟨4, true, _, _⟩, ⟨5, true, _, _⟩]) (M' := [⟨4, _, _⟩, ⟨5, _, _⟩]) rfl rfl ?_
          refine Tr.seq ?_
          refine Tr.seq ?_
          refine Tr.rg ?_
          refine TrL.op (ok_move rfl (fun _ => rfl)) rfl rfl ?_
          refine TrL.op (ok_move rfl (fun _ => rfl)) rfl rfl ?_
          refine TrL.op (ok_lenJ rfl (fun _ => rfl)) rfl rfl ?_
          refine TrL.op (ok_lss rfl (fun _ => rfl) rfl (fun _ => rfl)) rfl rfl ?_
          refine TrL.fin ?_
          refine End.nxt ?_
          refine Tr.cnd rfl ?_ ?_
          · intro h10
            replace h10 := of_decide_eq_true h10
            refine Tr.skip ?_
            refine End.nxt ?_
            refine Tr.seq ?_
            refine Tr.blk ?_
            refine Tr.seq ?_
            refine Tr.draw 12 mixed (by kernel_rfl) ?_
            refine RunD.op (ok_move rfl (fun _ => rfl)) rfl rfl ?_
            refine RunD.op (ok_move rfl (fun _ => rfl)) rfl rfl ?_
            first | refine RunD.op (ok_idxN rfl (fun _ => rfl) rfl (fun _ => rfl) rfl (fun _ => by omega)) rfl rfl ?_ | refine RunD.op (ok_idxP rfl (fun _ => rfl) rfl (fun _ => rfl) rfl (fun _ => by omega)) rfl rfl ?_
            refine RunD.op (ok_ldP rfl (fun _ => rfl) rfl) rfl rfl ?_
            refine RunD.op (ok_lss rfl (fun _ => rfl) rfl (fun _ => rfl)) rfl rfl ?_
            refine RunD.op (ok_move rfl (fun _ => rfl)) rfl rfl ?_
            refine RunD.gd rfl rfl rfl (ok_move rfl (fun _ => rfl)) rfl rfl ?_
            refine RunD.gd rfl rfl rfl (ok_move rfl (fun _ => rfl)) rfl rfl ?_
            first | refine RunD.gd rfl rfl rfl (ok_idxN rfl id rfl id rfl (fun hp => by simp at hp; omega)) rfl rfl ?_ | refine RunD.gd rfl rfl rfl (ok_idxP rfl id rfl id rfl (fun hp => by simp at hp; omega)) rfl rfl ?_
            refine RunD.gd rfl rfl rfl (ok_ldP rfl id rfl) rfl rfl ?_
            refine RunD.gd rfl rfl rfl (ok_ldBS rfl (fun _ => rfl)) rfl rfl ?_
            refine RunD.gd rfl rfl rfl (ok_call (fun hp => ct_rSize _) (.s rfl id rfl <| .nil)) rfl rfl ?_
            refine RunD.z ?_
            refine TrL.gd rfl rfl rfl (ok_geq rfl id rfl id) rfl rfl ?_
            refine TrL.op (ok_or rfl (fun _ => rfl) rfl (fun hp h => gdF2 ((fun _ => rfl) hp) h)) rfl rfl ?_
            refine TrL.fin ?_
            refine End.nxt ?_
            refine Tr.cnd rfl ?_ ?_
            · intro h12
              simp at h12
              refine Tr.seq ?_
              refine Tr.rg ?_
              refine TrL.op (ok_assign rfl (fun _ => rfl)) rfl rfl ?_
              refine TrL.fin ?_
              refine End.nxt ?_
              refine Tr.ret ?_
              refine Rts.out ?_
              refine Rts.thn ?_
              refine Rts.thn ?_
              refine Rts.out ?_
              refine Rts.thn ?_
              refine Rts.thn ?_
              exact Rts.res1 (fn := Try.f45) rfl (.i rfl (cmE_r h2 h5 hs (k := k) (by omega) (by omega)).symm <| .nil)
            · intro h12
              simp at h12
              refine Tr.skip ?_
              refine End.blk ?_
              refine End.nxt ?_
              refine Tr.rg ?_
              refine TrL.op (ok_move rfl (fun _ => rfl)) rfl rfl ?_
              refine TrL.op (ok_add rfl (fun _ => rfl) rfl (fun _ => rfl) (fun _ => by omega)) rfl rfl ?_
              refine TrL.op (ok_assign rfl (fun _ => rfl)) rfl rfl ?_
              refine TrL.fin ?_
              exact End.lp (k + 1) ⟨by omega, all_succ hR0 (by omega)⟩ (by omega) (Ent.mk (.i rfl (by first | rfl | omega | (simp; done) | (simp; omega) | assumption) <| .k rfl rfl <| .k rfl rfl <| .k rfl rfl <| .nil) (.k rfl <| .k rfl <| .nil) rfl)
          · intro h10
            replace h10 := Int.not_lt.1 (of_decide_eq_false h10)
            refine Tr.exit ?_
            refine Exs.thn ?_
            refine Exs.thn ?_
            refine Exs.here ?_
            exact End.cut (k) (fun i hi => hR0 i (by omega)) (Ent.mk (.i rfl (by first | rfl | omega | (simp; done) | (simp; omega) | assumption) <| .k rfl rfl <| .k rfl rfl <| .k rfl rfl <| .nil) (.k rfl <| .k rfl <| .nil) rfl)
        · intro k hE0
          refine End.norm (S' := [⟨11, true, _, _⟩, ⟨2, true, _, _⟩, ⟨4, true, _, _⟩, ⟨5, true, _, _⟩]) (M' := [⟨4, _, _⟩, ⟨5, _, _⟩]) rfl rfl ?_
          refine End.nxt ?_
          refine Tr.seq ?_
          refine Tr.seq ?_
          refine Tr.rg ?_
          refine TrL.op (ok_ldBS rfl (fun _ => rfl)) rfl rfl ?_
          refine TrL.op (ok_ldBS rfl (fun _ => rfl)) rfl rfl ?_
          refine TrL.op (ok_move rfl (fun _ => rfl)) rfl rfl ?_
          refine TrL.op (ok_call (fun hp => ct_rIsMap _ _ _ va vb hfl hE0) (.s rfl (fun _ => rfl) rfl <| .s rfl (fun _ => rfl) rfl <| .a rfl (fun _ => rfl) <| .nil)) rfl rfl ?_
          refine TrL.op (ok_not rfl (fun _ => rfl)) rfl rfl ?_
          refine TrL.op (ok_move rfl (fun _ => rfl)) rfl rfl ?_
          refine TrL.gd rfl rfl rfl (ok_ldBS rfl (fun _ => rfl)) rfl rfl ?_
          refine TrL.gd rfl rfl rfl (ok_move rfl (fun _ => rfl)) rfl rfl ?_
          refine TrL.gd rfl rfl rfl (ok_call (fun hp => ct_rOnto _ _ vb) (.s rfl id rfl <| .a rfl id <| .nil)) rfl rfl ?_
          refine TrL.gd rfl rfl rfl (ok_not rfl id) rfl rfl ?_
          refine TrL.op (ok_or rfl (fun _ => rfl) rfl (fun hp h => gdF2 ((fun _ => rfl) hp) h)) rfl rfl ?_
          refine TrL.fin ?_
          refine End.nxt ?_
          refine Tr.cnd rfl ?_ ?_
          · intro h14
            simp at h14
            refine Tr.seq ?_
            refine Tr.rg ?_
            refine TrL.op (ok_assign rfl (fun _ => rfl)) rfl rfl ?_
            refine TrL.fin ?_
            refine End.nxt ?_
            refine Tr.ret ?_
            refine Rts.thn ?_
            exact Rts.res1 (fn := Try.f45) rfl (.i rfl (cmE_p h2 h5 hs hE0 (by cases hA : isMapB a b f; exact .inl rfl; exact .inr (by simpa [hA] using h14))).symm <| .nil)
          · intro h14
            simp at h14
            refine Tr.skip ?_
            refine End.nxt ?_
            refine Tr.seq ?_
            refine Tr.rg ?_
            refine TrL.op (ok_assign rfl (fun _ => rfl)) rfl rfl ?_
            refine TrL.fin ?_
            refine End.nxt ?_
            refine Tr.ret ?_
            exact Rts.res1 (fn := Try.f45) rfl (.i rfl (cmE_0 h2 h5 hs hE0 h14.1 h14.2).symm <| .nil)

set_option maxRecDepth 100000 in
set_option maxHeartbeats 1000000 in
theorem ct_oCheckMap (a b : Ori) (f : List Int) (same : Bool) : Ct Try.prog 92 [kRd eO a, kRd eO b, kRd (eL eI) f, kB same] (kI (cmE a b f same)) := by
  refine Ct.mk Try.func92 rfl Try.ntmps92 rfl (fun w J => ?_)
  refine Tr.fact (s := 2) rfl (fun _ _ h => lenB h) (fun hb => ?_)
  refine Tr.seq ?_
  refine Tr.rg ?_
  refine TrL.new (ok_box 4 rfl (fun _ => rfl) rfl) rfl rfl rfl rfl ?_
  refine TrL.new (ok_box 5 rfl (fun _ => rfl) rfl) rfl rfl rfl rfl ?_
  refine TrL.op (ok_assign rfl (fun _ => rfl)) rfl rfl ?_
  refine TrL.fin ?_
  refine End.nxt ?_
  refine Tr.seq ?_
  refine Tr.seq ?_
  refine Tr.rg ?_
  refine TrL.op (ok_ldBS rfl (fun _ => rfl)) rfl rfl ?_
  refine TrL.op (ok_ldBS rfl (fun _ => rfl)) rfl rfl ?_
  refine TrL.op (ok_buildL [(0, 2), (2, 2)] rfl (fun hp => .cons rfl rfl rfl <| .cons rfl rfl rfl <| .nil)) rfl rfl ?_
  refine TrL.op (ok_move rfl (fun _ => rfl)) rfl rfl ?_
  refine TrL.fin ?_
  refine End.nxt ?_
  refine Tr.for1 (σ := Nat) [⟨2, true, _, _⟩, ⟨3, true, _, _⟩, ⟨4, true, _, _⟩, ⟨5, true, _, _⟩, ⟨19, true, _, _⟩] [⟨4, _, _⟩, ⟨5, _, _⟩] (fun k => [⟨20, true, [], kI (k : Int)⟩]) (fun k => []) (fun k => k ≤ 2 ∧ (0 < k → chkO a = 0) ∧ (1 < k → chkO b = 0)) (fun k => chkO a = 0 ∧ chkO b = 0) (fun k => 2 - k) (0) ⟨by omega, fun h => absurd h (by omega), fun h => absurd h (by omega)⟩ (Ent.mk (.i rfl (by first | rfl | omega | (simp; done) | (simp; omega) | assumption) <| .k rfl rfl <| .k rfl rfl <| .k rfl rfl <| .k rfl rfl <| .k rfl rfl <| .nil) (.k rfl <| .k rfl <| .nil) rfl) ?_ ?_
  · rintro k ⟨hk, hp, hq⟩
    refine Tr.norm (S' := [⟨20, true, _, _⟩, ⟨2, true, _, _⟩, ⟨3, true, _, _⟩, ⟨4, true, _, _⟩, ⟨5, true, _, _⟩, ⟨19, true, _, _⟩]) (M' := [⟨4, _, _⟩, ⟨5, _, _⟩]) rfl rfl ?_
    refine Tr.seq ?_
    refine Tr.rg ?_
    refine TrL.op (ok_lss rfl (fun _ => rfl) rfl (fun _ => rfl)) rfl rfl ?_
    refine TrL.fin ?_
    refine End.nxt ?_
    refine Tr.seq ?_
    refine Tr.cnd rfl ?_ ?_
    · intro h2
      replace h2 := of_decide_eq_true h2
      refine Tr.skip ?_
      refine End.nxt ?_
      refine Tr.seq ?_
      refine Tr.blk ?_
      refine Tr.seq ?_
      refine Tr.rg ?_
      refine TrL.op (ok_idxAA eO rfl (fun _ => rfl) rfl (fun _ => rfl) rfl rfl rfl (fun _ => ⟨by omega, by simp; omega⟩)) rfl rfl ?_
      refine TrL.new (ok_alloc 10) rfl rfl rfl rfl ?_
      refine TrL.stB rfl rfl rfl rfl ?_
      refine TrL.fin ?_
      refine End.nxt ?_
      refine Tr.seq ?_
      refine Tr.rg ?_
      refine TrL.op (ok_ldBS rfl (fun _ => rfl)) rfl rfl ?_
      refine TrL.op (ok_call (fun hp => ct_oCheck _) (.s rfl (fun _ => rfl) rfl <| .nil)) rfl rfl ?_
      refine TrL.op (ok_assign rfl (fun _ => rfl)) rfl rfl ?_
      refine TrL.fin ?_
      refine End.nxt ?_
      refine Tr.seq ?_
      refine Tr.rg ?_
      refine TrL.op (ok_move rfl (fun _ => rfl)) rfl rfl ?_
      refine TrL.op (ok_neq rfl (fun _ => rfl) rfl (fun _ => rfl)) rfl rfl ?_
      refine TrL.fin ?_
      refine End.nxt ?_
      refine Tr.cnd rfl ?_ ?_
      · intro h5
        replace h5 := of_decide_eq_true h5
        refine Tr.seq ?_
        refine Tr.rg ?_
        refine TrL.op (ok_move rfl (fun _ => rfl)) rfl rfl ?_
        refine TrL.op (ok_assign rfl (fun _ => rfl)) rfl rfl ?_
        refine TrL.fin ?_
        refine End.nxt ?_
        refine Tr.ret ?_
        refine Rts.out ?_
        refine Rts.thn ?_
        refine Rts.thn ?_
        refine Rts.out ?_
        refine Rts.thn ?_
        refine Rts.thn ?_
        exact Rts.res1 (fn := Try.f92) rfl (.i rfl (cm2 (by omega) hp h5) <| .nil)
      · intro h5
        replace h5 := Classical.not_not.1 (of_decide_eq_false h5)
        refine Tr.skip ?_
        refine End.blk ?_
        refine End.nxt ?_
        refine Tr.rg ?_
        refine TrL.op (ok_add rfl (fun _ => rfl) rfl (fun _ => rfl) (fun _ => by omega)) rfl rfl ?_
        refine TrL.op (ok_move rfl (fun _ => rfl)) rfl rfl ?_
        refine TrL.fin ?_
        exact End.lp (k + 1) ⟨by omega, fun _ => by (rcases k with _ | k; exact h5; exact hp (by omega)), fun _ => by (rcases k with _ | _ | k; omega; exact h5; exact hq (by omega))⟩ (by omega) (Ent.mk (.i rfl (by first | rfl | omega | (simp; done) | (simp; omega) | assumption) <| .k rfl rfl <| .k rfl rfl <| .k rfl rfl <| .k rfl rfl <| .k rfl rfl <| .nil) (.k rfl <| .k rfl <| .nil) rfl)
    · intro h2
      replace h2 := Int.not_lt.1 (of_decide_eq_false h2)
      refine Tr.exit ?_
      refine Exs.thn ?_
      refine Exs.thn ?_
      refine Exs.here ?_
      exact End.cut (k) ⟨hp (by omega), hq (by omega)⟩ (Ent.mk (.i rfl (by first | rfl | omega | (simp; done) | (simp; omega) | assumption) <| .k rfl rfl <| .k rfl rfl <| .k rfl rfl <| .k rfl rfl <| .k rfl rfl <| .nil) (.k rfl <| .k rfl <| .nil) rfl)
  · rintro k ⟨ha, hbb⟩
    refine End.norm (S' := [⟨20, true, _, _⟩, ⟨2, true, _, _⟩, ⟨3, true, _, _⟩, ⟨4, true, _, _⟩, ⟨5, true, _, _⟩, ⟨19, true, _, _⟩]) (M' := [⟨4, _, _⟩, ⟨5, _, _⟩]) rfl rfl ?_
    have va : Valid a := valid_of ha
    have vb : Valid b := valid_of hbb
    have hvl := va.le
    have hvl2 := vb.le
    have hva := va.len
    have hvb := vb.len
    refine End.nxt ?_
    refine Tr.seq ?_
    refine Tr.seq ?_
    refine Tr.rg ?_
    refine TrL.op (ok_move rfl (fun _ => rfl)) rfl rfl ?_
    refine TrL.op (ok_lenJ rfl (fun _ => rfl)) rfl rfl ?_
    refine TrL.op (ok_fldO rfl (fun _ => rfl)) rfl rfl ?_
    refine TrL.op (ok_ldB rfl (fun _ => rfl) rfl) rfl rfl ?_
    refine TrL.op (ok_lenJ rfl (fun _ => rfl)) rfl rfl ?_
    refine TrL.op (ok_neq rfl (fun _ => rfl) rfl (fun _ => rfl)) rfl rfl ?_
    refine TrL.op (ok_move rfl (fun _ => rfl)) rfl rfl ?_
    refine TrL.gd rfl rfl rfl (ok_move rfl (fun _ => rfl)) rfl rfl ?_
    refine TrL.gd rfl rfl rfl (ok_move rfl id) rfl rfl ?_
    refine TrL.gd rfl rfl rfl (ok_move rfl (fun _ => rfl)) rfl rfl ?_
    refine TrL.gd rfl rfl rfl (ok_lenJ rfl id) rfl rfl ?_
    refine TrL.gd rfl rfl rfl (ok_fldO rfl (fun _ => rfl)) rfl rfl ?_
    refine TrL.gd rfl rfl rfl (ok_ldB rfl id rfl) rfl rfl ?_
    refine TrL.gd rfl rfl rfl (ok_lenJ rfl id) rfl rfl ?_
    refine TrL.gd rfl rfl rfl (ok_neq rfl id rfl id) rfl rfl ?_
    refine TrL.gd rfl rfl rfl (ok_and rfl id rfl (fun hp h => gdT2 (id hp) h)) rfl rfl ?_
    refine TrL.op (ok_or rfl (fun _ => rfl) rfl (fun hp h => gdF2 ((fun _ => rfl) hp) h)) rfl rfl ?_
    refine TrL.fin ?_
    refine End.nxt ?_
    refine Tr.cnd rfl ?_ ?_
    · intro h8
      rw [shp2] at h8
      have hs := of_decide_eq_true h8
      refine Tr.seq ?_
      refine Tr.rg ?_
      refine TrL.op (ok_assign rfl (fun _ => rfl)) rfl rfl ?_
      refine TrL.fin ?_
      refine End.nxt ?_
      refine Tr.ret ?_
      refine Rts.thn ?_
      exact Rts.res1 (fn := Try.f92) rfl (.i rfl (cmE_s ha hbb hs).symm <| .nil)
    · intro h8
      rw [shp2] at h8
      have hs := of_decide_eq_false h8
      have hfl : f.length = a.1.length := Classical.byContradiction fun hh => hs (.inl hh)
      refine Tr.skip ?_
      refine End.nxt ?_
      refine Tr.seq ?_
      refine Tr.rg ?_
      refine TrL.op (ok_fldO rfl (fun _ => rfl)) rfl rfl ?_
      refine TrL.op (ok_ldB rfl (fun _ => rfl) rfl) rfl rfl ?_
      refine TrL.op (ok_lenJ rfl (fun _ => rfl)) rfl rfl ?_
      refine TrL.new (ok_makeN eBool 49 rfl (fun _ => rfl) rfl (fun _ => rfl) rfl rfl rfl (fun _ => by omega)) rfl rfl rfl rfl ?_
      refine TrL.op (ok_assign rfl (fun _ => rfl)) rfl rfl ?_
      refine TrL.fin ?_
      refine End.nxt ?_
      refine Tr.seq ?_
      refine Tr.seq ?_
      refine Tr.rg ?_
      refine TrL.op (ok_move rfl (fun _ => rfl)) rfl rfl ?_
      refine TrL.op (ok_lenJ rfl (fun _ => rfl)) rfl rfl ?_
      refine TrL.op (ok_move rfl (fun _ => rfl)) rfl rfl ?_
      refine TrL.fin ?_
      refine End.nxt ?_
      refine Tr.for1 (σ := Nat) [⟨2, true, _, _⟩, ⟨4, true, _, _⟩, ⟨5, true, _, _⟩, ⟨12, true, _, _⟩, ⟨50, true, _, _⟩, ⟨51, true, _, _⟩] [⟨4, _, _⟩, ⟨5, _, _⟩] (fun k => [⟨52, true, [], kI (k : Int)⟩]) (fun k => [⟨49, [], cArr false 4 eBool (seenB b.1.length (f.take k)) b.1.length⟩]) (fun k => k ≤ f.length ∧ ∀ i, i < k → 0 ≤ nth f i ∧ nth f i < b.1.length) (fun k => inR f b.1.length ∧ k = f.length) (fun k => f.length - k) (0) ⟨Nat.zero_le _, fun i h => absurd h (by omega)⟩ (Ent.mk (.i rfl (by first | rfl | omega | (simp; done) | (simp; omega) | assumption) <| .k rfl rfl <| .k rfl rfl <| .k rfl rfl <| .k rfl rfl <| .k rfl rfl <| .k rfl rfl <| .nil) (.a seenB_nil (by first | rfl | omega | (simp; done) | (simp; omega) | assumption) <| .k rfl <| .k rfl <| .nil) rfl) ?_ ?_
      · rintro k ⟨hk, hR⟩
        refine Tr.norm (S' := [⟨52, true, _, _⟩, ⟨2, true, _, _⟩, ⟨4, true, _, _⟩, ⟨5, true, _, _⟩, ⟨12, true, _, _⟩, ⟨50, true, _, _⟩, ⟨51, true, _, _⟩]) (M' := [⟨49, _, _⟩, ⟨4, _, _⟩, ⟨5, _, _⟩]) rfl rfl ?_
        refine Tr.seq ?_
        refine Tr.rg ?_
        refine TrL.op (ok_lss rfl (fun _ => rfl) rfl (fun _ => rfl)) rfl rfl ?_
        refine TrL.fin ?_
        refine End.nxt ?_
        refine Tr.seq ?_
        refine Tr.cnd rfl ?_ ?_
        · intro h12
          replace h12 := of_decide_eq_true h12
          refine Tr.skip ?_
          refine End.nxt ?_
          refine Tr.seq ?_
          refine Tr.blk ?_
          refine Tr.seq ?_
          refine Tr.rg ?_
          first | refine TrL.op (ok_idxN rfl (fun _ => rfl) rfl (fun _ => rfl) rfl (fun _ => by omega)) rfl rfl ?_ | refine TrL.op (ok_idxP rfl (fun _ => rfl) rfl (fun _ => rfl) rfl (fun _ => by omega)) rfl rfl ?_
          refine TrL.op (ok_ldP rfl (fun _ => rfl) rfl) rfl rfl ?_
          refine TrL.op (ok_assign rfl (fun _ => rfl)) rfl rfl ?_
          refine TrL.fin ?_
          refine End.nxt ?_
          refine Tr.seq ?_
          refine Tr.seq ?_
          refine Tr.rg ?_
          refine TrL.op (ok_move rfl (fun _ => rfl)) rfl rfl ?_
          refine TrL.op (ok_lss rfl (fun _ => rfl) rfl (fun _ => rfl)) rfl rfl ?_
          refine TrL.op (ok_move rfl (fun _ => rfl)) rfl rfl ?_
          refine TrL.gd rfl rfl rfl (ok_move rfl (fun _ => rfl)) rfl rfl ?_
          refine TrL.gd rfl rfl rfl (ok_move rfl (fun _ => rfl)) rfl rfl ?_
          refine TrL.gd rfl rfl rfl (ok_lenO rfl id) rfl rfl ?_
          refine TrL.gd rfl rfl rfl (ok_geq rfl id rfl id) rfl rfl ?_
          refine TrL.op (ok_or rfl (fun _ => rfl) rfl (fun hp h => gdF2 ((fun _ => rfl) hp) h)) rfl rfl ?_
          refine TrL.fin ?_
          refine End.nxt ?_
          refine Tr.cnd rfl ?_ ?_
          · intro h14
            simp at h14
            refine Tr.seq ?_
            refine Tr.rg ?_
            refine TrL.op (ok_assign rfl (fun _ => rfl)) rfl rfl ?_
            refine TrL.fin ?_
            refine End.nxt ?_
            refine Tr.ret ?_
            refine Rts.thn ?_
            refine Rts.out ?_
            refine Rts.thn ?_
            refine Rts.thn ?_
            refine Rts.out ?_
            refine Rts.thn ?_
            refine Rts.thn ?_
            exact Rts.res1 (fn := Try.f92) rfl (.i rfl (cmE_r ha hbb hs (k := k) (by omega) (by omega)).symm <| .nil)
          · intro h14
            simp at h14
            refine Tr.skip ?_
            refine End.nxt ?_
            refine Tr.rg ?_
            refine TrL.op (ok_move rfl (fun _ => rfl)) rfl rfl ?_
            refine TrL.op (ok_move rfl (fun _ => rfl)) rfl rfl ?_
            first | refine TrL.op (ok_idxEN rfl (fun _ => rfl) rfl (fun _ => rfl) (fun _ => by omega)) rfl rfl ?_ | refine TrL.op (ok_idxE rfl (fun _ => rfl) rfl (fun _ => rfl) (fun _ => by omega)) rfl rfl ?_
            refine TrL.stE rfl rfl rfl rfl rfl ?_
            refine TrL.fin ?_
            refine End.blk ?_
            refine End.nxt ?_
            refine Tr.rg ?_
            refine TrL.op (ok_add rfl (fun _ => rfl) rfl (fun _ => rfl) (fun _ => by omega)) rfl rfl ?_
            refine TrL.op (ok_move rfl (fun _ => rfl)) rfl rfl ?_
            refine TrL.fin ?_
            exact End.lp (k + 1) ⟨by omega, all_succ hR (by omega)⟩ (by omega) (Ent.mk (.i rfl (by first | rfl | omega | (simp; done) | (simp; omega) | assumption) <| .k rfl rfl <| .k rfl rfl <| .k rfl rfl <| .k rfl rfl <| .k rfl rfl <| .k rfl rfl <| .nil) (.a (by rw [take_succ_nth (by omega), seenB_set (by omega)]) (by first | rfl | omega | (simp; done) | (simp; omega) | assumption) <| .k rfl <| .k rfl <| .nil) rfl)
        · intro h12
          replace h12 := Int.not_lt.1 (of_decide_eq_false h12)
          refine Tr.exit ?_
          refine Exs.thn ?_
          refine Exs.thn ?_
          refine Exs.here ?_
          exact End.cut (k) ⟨fun i hi => hR i (by omega), by omega⟩ (Ent.mk (.i rfl (by first | rfl | omega | (simp; done) | (simp; omega) | assumption) <| .k rfl rfl <| .k rfl rfl <| .k rfl rfl <| .k rfl rfl <| .k rfl rfl <| .k rfl rfl <| .nil) (.a (by first | rfl | omega | (simp; done) | (simp; omega) | assumption) (by first | rfl | omega | (simp; done) | (simp; omega) | assumption) <| .k rfl <| .k rfl <| .nil) rfl)
      · rintro k ⟨hr, hkf⟩
        refine End.norm (S' := [⟨52, true, _, _⟩, ⟨2, true, _, _⟩, ⟨4, true, _, _⟩, ⟨5, true, _, _⟩, ⟨12, true, _, _⟩, ⟨50, true, _, _⟩, ⟨51, true, _, _⟩]) (M' := [⟨49, _, _⟩, ⟨4, _, _⟩, ⟨5, _, _⟩]) rfl rfl ?_
        subst hkf
        rw [List.take_length]
        refine End.nxt ?_
        refine Tr.seq ?_
        refine Tr.seq ?_
        refine Tr.rg ?_
        refine TrL.op (ok_move rfl (fun _ => rfl)) rfl rfl ?_
        refine TrL.op (ok_lenJ rfl (fun _ => rfl)) rfl rfl ?_
        refine TrL.op (ok_move rfl (fun _ => rfl)) rfl rfl ?_
        refine TrL.fin ?_
        refine End.nxt ?_
        refine Tr.for1 (σ := Nat) [⟨2, true, _, _⟩, ⟨4, true, _, _⟩, ⟨5, true, _, _⟩, ⟨12, true, _, _⟩, ⟨68, true, _, _⟩, ⟨69, true, _, _⟩] [⟨4, _, _⟩, ⟨5, _, _⟩, ⟨49, _, _⟩] (fun k => [⟨70, true, [], kI (k : Int)⟩]) (fun k => []) (fun k => k ≤ f.length ∧ ∀ i, i < k → (ap f (nth a.1 i) = ap b.1 (nth f i) ∧ ap f (nth a.2 i) = ap b.2 (nth f i))) (fun k => ∀ i, i < f.length → (ap f (nth a.1 i) = ap b.1 (nth f i) ∧ ap f (nth a.2 i) = ap b.2 (nth f i))) (fun k => f.length - k) (0) ⟨Nat.zero_le _, fun i h => absurd h (by omega)⟩ (Ent.mk (.i rfl (by first | rfl | omega | (simp; done) | (simp; omega) | assumption) <| .k rfl rfl <| .k rfl rfl <| .k rfl rfl <| .k rfl rfl <| .k rfl rfl <| .k rfl rfl <| .nil) (.k rfl <| .k rfl <| .k rfl <| .nil) rfl) ?_ ?_
        · rintro k ⟨hk2, hR2⟩
          refine Tr.norm (S' := [⟨70, true, _, _⟩, ⟨2, true, _, _⟩, ⟨4, true, _, _⟩, ⟨5, true, _, _⟩, ⟨12, true, _, _⟩, ⟨68, true, _, _⟩, ⟨69, true, _, _⟩]) (M' := [⟨4, _, _⟩, ⟨5, _, _⟩, ⟨49, _, _⟩]) rfl rfl ?_
          refine Tr.seq ?_
          refine Tr.rg ?_
          refine TrL.op (ok_lss rfl (fun _ => rfl) rfl (fun _ => rfl)) rfl rfl ?_
          refine TrL.fin ?_
          refine End.nxt ?_
          refine Tr.seq ?_
          refine Tr.cnd rfl ?_ ?_
          · intro h19
            replace h19 := of_decide_eq_true h19
            refine Tr.skip ?_
            refine End.nxt ?_
            refine Tr.seq ?_
            refine Tr.blk ?_
            refine Tr.seq ?_
            refine Tr.rg ?_
            refine TrL.op (ok_move rfl (fun _ => rfl)) rfl rfl ?_
            first | refine TrL.op (ok_idxN rfl (fun _ => rfl) rfl (fun _ => rfl) rfl (fun _ => by omega)) rfl rfl ?_ | refine TrL.op (ok_idxP rfl (fun _ => rfl) rfl (fun _ => rfl) rfl (fun _ => by omega)) rfl rfl ?_
            refine TrL.op (ok_ldP rfl (fun _ => rfl) rfl) rfl rfl ?_
            refine TrL.op (ok_assign rfl (fun _ => rfl)) rfl rfl ?_
            refine TrL.op (ok_assign rfl (fun _ => rfl)) rfl rfl ?_
            refine TrL.fin ?_
            refine End.nxt ?_
            refine Tr.seq ?_
            refine Tr.draw 28 mixed (by kernel_rfl) ?_
            have a1 := va.ri (i := k) (by omega)
            have a2 := va.ui (i := k) (by omega)
            have a3 := hr k (by omega)
            have a4 := hr (nth a.1 k).toNat (by omega)
            have a5 := hr (nth a.2 k).toNat (by omega)
            refine RunD.op (ok_move rfl (fun _ => rfl)) rfl rfl ?_
            refine RunD.op (ok_fldO rfl (fun _ => rfl)) rfl rfl ?_
            refine RunD.op (ok_ldB rfl (fun _ => rfl) rfl) rfl rfl ?_
            refine RunD.op (ok_move rfl (fun _ => rfl)) rfl rfl ?_
            first | refine RunD.op (ok_idxN rfl (fun _ => rfl) rfl (fun _ => rfl) rfl (fun _ => by omega)) rfl rfl ?_ | refine RunD.op (ok_idxP rfl (fun _ => rfl) rfl (fun _ => rfl) rfl (fun _ => by omega)) rfl rfl ?_
            refine RunD.op (ok_ldP rfl (fun _ => rfl) rfl) rfl rfl ?_
            first | refine RunD.op (ok_idxN rfl (fun _ => rfl) rfl (fun _ => rfl) rfl (fun _ => by omega)) rfl rfl ?_ | refine RunD.op (ok_idxP rfl (fun _ => rfl) rfl (fun _ => rfl) rfl (fun _ => by omega)) rfl rfl ?_
            refine RunD.op (ok_ldP rfl (fun _ => rfl) rfl) rfl rfl ?_
            refine RunD.op (ok_fldO rfl (fun _ => rfl)) rfl rfl ?_
            refine RunD.op (ok_ldB rfl (fun _ => rfl) rfl) rfl rfl ?_
            refine RunD.op (ok_move rfl (fun _ => rfl)) rfl rfl ?_
            first | refine RunD.op (ok_idxN rfl (fun _ => rfl) rfl (fun _ => rfl) rfl (fun _ => by omega)) rfl rfl ?_ | refine RunD.op (ok_idxP rfl (fun _ => rfl) rfl (fun _ => rfl) rfl (fun _ => by omega)) rfl rfl ?_
            refine RunD.op (ok_ldP rfl (fun _ => rfl) rfl) rfl rfl ?_
            refine RunD.op (ok_neq rfl (fun _ => rfl) rfl (fun _ => rfl)) rfl rfl ?_
            refine RunD.op (ok_move rfl (fun _ => rfl)) rfl rfl ?_
            refine RunD.gd rfl rfl rfl (ok_move rfl (fun _ => rfl)) rfl rfl ?_
            refine RunD.gd rfl rfl rfl (ok_fldO rfl (fun _ => rfl)) rfl rfl ?_
            refine RunD.gd rfl rfl rfl (ok_ldB rfl id rfl) rfl rfl ?_
            refine RunD.gd rfl rfl rfl (ok_move rfl (fun _ => rfl)) rfl rfl ?_
            first | refine RunD.gd rfl rfl rfl (ok_idxN rfl id rfl id rfl (fun hp => by simp at hp; omega)) rfl rfl ?_ | refine RunD.gd rfl rfl rfl (ok_idxP rfl id rfl id rfl (fun hp => by simp at hp; omega)) rfl rfl ?_
            refine RunD.gd rfl rfl rfl (ok_ldP rfl id rfl) rfl rfl ?_
            first | refine RunD.gd rfl rfl rfl (ok_idxN rfl id rfl id rfl (fun hp => by simp at hp; omega)) rfl rfl ?_ | refine RunD.gd rfl rfl rfl (ok_idxP rfl id rfl id rfl (fun hp => by simp at hp; omega)) rfl rfl ?_
            refine RunD.gd rfl rfl rfl (ok_ldP rfl id rfl) rfl rfl ?_
            refine RunD.gd rfl rfl rfl (ok_fldO rfl (fun _ => rfl)) rfl rfl ?_
            refine RunD.gd rfl rfl rfl (ok_ldB rfl id rfl) rfl rfl ?_
            refine RunD.gd rfl rfl rfl (ok_move rfl (fun _ => rfl)) rfl rfl ?_
            first | refine RunD.gd rfl rfl rfl (ok_idxN rfl id rfl id rfl (fun hp => by simp at hp; omega)) rfl rfl ?_ | refine RunD.gd rfl rfl rfl (ok_idxP rfl id rfl id rfl (fun hp => by simp at hp; omega)) rfl rfl ?_
            refine RunD.gd rfl rfl rfl (ok_ldP rfl id rfl) rfl rfl ?_
            refine RunD.z ?_
            refine TrL.gd rfl rfl rfl (ok_neq rfl id rfl id) rfl rfl ?_
            refine TrL.op (ok_or rfl (fun _ => rfl) rfl (fun hp h => gdF2 ((fun _ => rfl) hp) h)) rfl rfl ?_
            refine TrL.fin ?_
            refine End.nxt ?_
            refine Tr.cnd rfl ?_ ?_
            · intro h21
              simp at h21
              refine Tr.seq ?_
              refine Tr.rg ?_
              refine TrL.op (ok_assign rfl (fun _ => rfl)) rfl rfl ?_
              refine TrL.fin ?_
              refine End.nxt ?_
              refine Tr.ret ?_
              refine Rts.out ?_
              refine Rts.thn ?_
              refine Rts.thn ?_
              refine Rts.out ?_
              refine Rts.thn ?_
              refine Rts.thn ?_
              exact Rts.res1 (fn := Try.f92) rfl (.i rfl (cmE_p ha hbb hs hr (.inl (isMapB_not (k := k) (by omega) (by unfold ap; intro hh; rcases h21 with h | h; exact h hh.1; exact h hh.2)))).symm <| .nil)
            · intro h21
              simp at h21
              refine Tr.skip ?_
              refine End.blk ?_
              refine End.nxt ?_
              refine Tr.rg ?_
              refine TrL.op (ok_add rfl (fun _ => rfl) rfl (fun _ => rfl) (fun _ => by omega)) rfl rfl ?_
              refine TrL.op (ok_move rfl (fun _ => rfl)) rfl rfl ?_
              refine TrL.fin ?_
              exact End.lp (k + 1) ⟨by omega, all_succ hR2 (by unfold ap; exact h21)⟩ (by omega) (Ent.mk (.i rfl (by first | rfl | omega | (simp; done) | (simp; omega) | assumption) <| .k rfl rfl <| .k rfl rfl <| .k rfl rfl <| .k rfl rfl <| .k rfl rfl <| .k rfl rfl <| .nil) (.k rfl <| .k rfl <| .k rfl <| .nil) rfl)
          · intro h19
            replace h19 := Int.not_lt.1 (of_decide_eq_false h19)
            refine Tr.exit ?_
            refine Exs.thn ?_
            refine Exs.thn ?_
            refine Exs.here ?_
            exact End.cut (k) (fun i hi => hR2 i (by omega)) (Ent.mk (.i rfl (by first | rfl | omega | (simp; done) | (simp; omega) | assumption) <| .k rfl rfl <| .k rfl rfl <| .k rfl rfl <| .k rfl rfl <| .k rfl rfl <| .k rfl rfl <| .nil) (.k rfl <| .k rfl <| .k rfl <| .nil) rfl)
        · intro k hE2
          refine End.norm (S' := [⟨70, true, _, _⟩, ⟨2, true, _, _⟩, ⟨4, true, _, _⟩, ⟨5, true, _, _⟩, ⟨12, true, _, _⟩, ⟨68, true, _, _⟩, ⟨69, true, _, _⟩]) (M' := [⟨4, _, _⟩, ⟨5, _, _⟩, ⟨49, _, _⟩]) rfl rfl ?_
          refine End.nxt ?_
          refine Tr.seq ?_
          refine Tr.seq ?_
          refine Tr.rg ?_
          refine TrL.op (ok_move rfl (fun _ => rfl)) rfl rfl ?_
          refine TrL.frz 49 [12, 106] ⟨rfl, rfl, trivial⟩ (by simp only [lenMax]; omega) rfl ?_
          refine TrL.norm (S' := [⟨_, _, _, _⟩, ⟨_, _, _, _⟩, ⟨_, _, _, _⟩, ⟨_, _, _, _⟩, ⟨_, _, _, _⟩, ⟨_, _, _, _⟩, ⟨_, _, _, _⟩, ⟨_, _, _, _⟩, ⟨_, _, _, _⟩, ⟨_, _, _, _⟩]) rfl rfl ?_
          refine TrL.op (ok_call (fun hp => ct_ContainsB _ _) (.a rfl (fun _ => rfl) <| .a rfl (fun _ => rfl) <| .nil)) rfl rfl ?_
          refine TrL.fin ?_
          refine End.nxt ?_
          refine Tr.cnd rfl ?_ ?_
          · intro h24
            rw [seenB_onto] at h24
            refine Tr.seq ?_
            refine Tr.rg ?_
            refine TrL.op (ok_assign rfl (fun _ => rfl)) rfl rfl ?_
            refine TrL.fin ?_
            refine End.nxt ?_
            refine Tr.ret ?_
            refine Rts.thn ?_
            exact Rts.res1 (fn := Try.f92) rfl (.i rfl (cmE_p ha hbb hs hr (.inr (by simpa using h24))).symm <| .nil)
          · intro h24
            rw [seenB_onto] at h24
            refine Tr.skip ?_
            refine End.nxt ?_
            refine Tr.seq ?_
            refine Tr.rg ?_
            refine TrL.op (ok_assign rfl (fun _ => rfl)) rfl rfl ?_
            refine TrL.fin ?_
            refine End.nxt ?_
            refine Tr.ret ?_
            exact Rts.res1 (fn := Try.f92) rfl (.i rfl (cmE_0 ha hbb hs hr (isMapB_all (fun x hx => hE2 x (by omega))) (by simpa using h24)).symm <| .nil)

set_option maxRecDepth 100000 in
theorem ct_oCheckIsomorphism (a b : Ori) (f : List Int) : Ct Try.prog 44 [kRd eO a, kRd eO b, kRd (eL eI) f] (kI (cmE a b f true)) := by
  refine Ct.mk Try.func44 rfl Try.ntmps44 rfl (fun w J => ?_)
  refine Tr.seq ?_
  refine Tr.rg ?_
  refine TrL.new (ok_box 3 rfl (fun _ => rfl) rfl) rfl rfl rfl rfl ?_
  refine TrL.new (ok_box 4 rfl (fun _ => rfl) rfl) rfl rfl rfl rfl ?_
  refine TrL.op (ok_assign rfl (fun _ => rfl)) rfl rfl ?_
  refine TrL.fin ?_
  refine End.nxt ?_
  refine Tr.seq ?_
  refine Tr.rg ?_
  refine TrL.op (ok_ldBS rfl (fun _ => rfl)) rfl rfl ?_
  refine TrL.op (ok_ldBS rfl (fun _ => rfl)) rfl rfl ?_
  refine TrL.op (ok_move rfl (fun _ => rfl)) rfl rfl ?_
  refine TrL.op (ok_call (fun hp => ct_oCheckMap _ _ _ _) (.s rfl (fun _ => rfl) rfl <| .s rfl (fun _ => rfl) rfl <| .a rfl (fun _ => rfl) <| .a rfl (fun _ => rfl) <| .nil)) rfl rfl ?_
  refine TrL.op (ok_assign rfl (fun _ => rfl)) rfl rfl ?_
  refine TrL.fin ?_
  refine End.nxt ?_
  refine Tr.ret ?_
  exact Rts.res1 (fn := Try.f44) rfl (.i rfl (by first | rfl | omega | (simp; done) | (simp; omega) | assumption) <| .nil)

set_option maxRecDepth 100000 in
theorem ct_oCheckCovering (a b : Ori) (f : List Int) : Ct Try.prog 46 [kRd eO a, kRd eO b, kRd (eL eI) f] (kI (cmE a b f false)) := by
  refine Ct.mk Try.func46 rfl Try.ntmps46 rfl (fun w J => ?_)
  refine Tr.seq ?_
  refine Tr.rg ?_
  refine TrL.new (ok_box 3 rfl (fun _ => rfl) rfl) rfl rfl rfl rfl ?_
  refine TrL.new (ok_box 4 rfl (fun _ => rfl) rfl) rfl rfl rfl rfl ?_
  refine TrL.op (ok_assign rfl (fun _ => rfl)) rfl rfl ?_
  refine TrL.fin ?_
  refine End.nxt ?_
  refine Tr.seq ?_
  refine Tr.rg ?_
  refine TrL.op (ok_ldBS rfl (fun _ => rfl)) rfl rfl ?_
  refine TrL.op (ok_ldBS rfl (fun _ => rfl)) rfl rfl ?_
  refine TrL.op (ok_move rfl (fun _ => rfl)) rfl rfl ?_
  refine TrL.op (ok_call (fun hp => ct_oCheckMap _ _ _ _) (.s rfl (fun _ => rfl) rfl <| .s rfl (fun _ => rfl) rfl <| .a rfl (fun _ => rfl) <| .a rfl (fun _ => rfl) <| .nil)) rfl rfl ?_
  refine TrL.op (ok_assign rfl (fun _ => rfl)) rfl rfl ?_
  refine TrL.fin ?_
  refine End.nxt ?_
  refine Tr.ret ?_
  exact Rts.res1 (fn := Try.f46) rfl (.i rfl (by first | rfl | omega | (simp; done) | (simp; omega) | assumption) <| .nil)

set_option maxRecDepth 100000 in
theorem ct_OrigamiProofs (a b : Ori) (f : List Int) : Ct Try.prog 8 [kRd eO a, kRd eO b, kRd (eL eI) f] (kB true) := by
  refine Ct.mk Try.func8 rfl Try.ntmps8 rfl (fun w J => ?_)
  refine Tr.seq ?_
  refine Tr.rg ?_
  refine TrL.new (ok_box 3 rfl (fun _ => rfl) rfl) rfl rfl rfl rfl ?_
  refine TrL.new (ok_box 4 rfl (fun _ => rfl) rfl) rfl rfl rfl rfl ?_
  refine TrL.op (ok_assign rfl (fun _ => rfl)) rfl rfl ?_
  refine TrL.fin ?_
  refine End.nxt ?_
  refine Tr.seq ?_
  refine Tr.seq ?_
  refine Tr.rg ?_
  refine TrL.op (ok_call (fun hp => ct_awake) (.nil)) rfl rfl ?_
  refine TrL.op (ok_not rfl (fun _ => rfl)) rfl rfl ?_
  refine TrL.fin ?_
  refine End.nxt ?_
  refine Tr.cnd rfl ?_ ?_
  · intro h1
    simp at h1
  · intro h1
    refine Tr.skip ?_
    refine End.nxt ?_
    refine Tr.seq ?_
    refine Tr.seq ?_
    refine Tr.rg ?_
    refine TrL.op (ok_ldBS rfl (fun _ => rfl)) rfl rfl ?_
    refine TrL.op (ok_call (fun hp => ct_Few _) (.s rfl (fun _ => rfl) rfl <| .nil)) rfl rfl ?_
    refine TrL.op (ok_not rfl (fun _ => rfl)) rfl rfl ?_
    refine TrL.op (ok_move rfl (fun _ => rfl)) rfl rfl ?_
    refine TrL.gd rfl rfl rfl (ok_ldBS rfl (fun _ => rfl)) rfl rfl ?_
    refine TrL.gd rfl rfl rfl (ok_call (fun hp => ct_Few _) (.s rfl id rfl <| .nil)) rfl rfl ?_
    refine TrL.gd rfl rfl rfl (ok_not rfl id) rfl rfl ?_
    refine TrL.op (ok_or rfl (fun _ => rfl) rfl (fun hp h => gdF2 ((fun _ => rfl) hp) h)) rfl rfl ?_
    refine TrL.op (ok_move rfl (fun _ => rfl)) rfl rfl ?_
    refine TrL.gd rfl rfl rfl (ok_move rfl (fun _ => rfl)) rfl rfl ?_
    refine TrL.gd rfl rfl rfl (ok_lenJ rfl id) rfl rfl ?_
    refine TrL.gd rfl rfl rfl (ok_gtr rfl id rfl (fun _ => rfl)) rfl rfl ?_
    refine TrL.op (ok_or rfl (fun _ => rfl) rfl (fun hp h => gdF2 ((fun _ => rfl) hp) h)) rfl rfl ?_
    refine TrL.fin ?_
    refine End.nxt ?_
    refine Tr.cnd rfl ?_ ?_
    · intro h3
      refine Tr.seq ?_
      refine Tr.rg ?_
      refine TrL.op (ok_assign rfl (fun _ => rfl)) rfl rfl ?_
      refine TrL.fin ?_
      refine End.nxt ?_
      refine Tr.ret ?_
      refine Rts.thn ?_
      exact Rts.res1 (fn := Try.f8) rfl (.b rfl (by rfl) <| .nil)
    · intro h3
      refine Tr.skip ?_
      refine End.nxt ?_
      refine Tr.seq ?_
      refine Tr.draw 17 mixed (by kernel_rfl) ?_
      refine RunD.op (ok_ldBS rfl (fun _ => rfl)) rfl rfl ?_
      refine RunD.op (ok_ldBS rfl (fun _ => rfl)) rfl rfl ?_
      refine RunD.op (ok_move rfl (fun _ => rfl)) rfl rfl ?_
      refine RunD.op (ok_call (fun hp => ct_oCheckIsomorphism _ _ _) (.s rfl (fun _ => rfl) rfl <| .s rfl (fun _ => rfl) rfl <| .a rfl (fun _ => rfl) <| .nil)) rfl rfl ?_
      refine RunD.op (ok_ldBS rfl (fun _ => rfl)) rfl rfl ?_
      refine RunD.op (ok_ldBS rfl (fun _ => rfl)) rfl rfl ?_
      refine RunD.op (ok_move rfl (fun _ => rfl)) rfl rfl ?_
      refine RunD.op (ok_call (fun hp => ct_rCheckMap _ _ _ _) (.s rfl (fun _ => rfl) rfl <| .s rfl (fun _ => rfl) rfl <| .a rfl (fun _ => rfl) <| .a rfl (fun _ => rfl) <| .nil)) rfl rfl ?_
      refine RunD.op (ok_eql rfl (fun _ => rfl) rfl (fun _ => rfl)) rfl rfl ?_
      refine RunD.op (ok_move rfl (fun _ => rfl)) rfl rfl ?_
      refine RunD.gd rfl rfl rfl (ok_ldBS rfl (fun _ => rfl)) rfl rfl ?_
      refine RunD.gd rfl rfl rfl (ok_ldBS rfl (fun _ => rfl)) rfl rfl ?_
      refine RunD.gd rfl rfl rfl (ok_move rfl (fun _ => rfl)) rfl rfl ?_
      refine RunD.gd rfl rfl rfl (ok_call (fun hp => ct_oCheckCovering _ _ _) (.s rfl id rfl <| .s rfl id rfl <| .a rfl id <| .nil)) rfl rfl ?_
      refine RunD.gd rfl rfl rfl (ok_ldBS rfl (fun _ => rfl)) rfl rfl ?_
      refine RunD.gd rfl rfl rfl (ok_ldBS rfl (fun _ => rfl)) rfl rfl ?_
      refine RunD.gd rfl rfl rfl (ok_move rfl (fun _ => rfl)) rfl rfl ?_
      refine RunD.z ?_
      refine TrL.gd rfl rfl rfl (ok_call (fun hp => ct_rCheckMap _ _ _ _) (.s rfl id rfl <| .s rfl id rfl <| .a rfl id <| .a rfl (fun _ => rfl) <| .nil)) rfl rfl ?_
      refine TrL.gd rfl rfl rfl (ok_eql rfl id rfl id) rfl rfl ?_
      refine TrL.op (ok_and rfl (fun _ => rfl) rfl (fun hp h => gdT2 ((fun _ => rfl) hp) h)) rfl rfl ?_
      refine TrL.op (ok_assign rfl (fun _ => rfl)) rfl rfl ?_
      refine TrL.fin ?_
      refine End.nxt ?_
      refine Tr.ret ?_
      exact Rts.res1 (fn := Try.f8) rfl (.b rfl (by simp) <| .nil)

end Go.Fl

/- THE LAW OrigamiProofs HOLDS FOR EVERY INPUT: whatever the arguments, the call returns true, and each argument reads behind it as before. Conditions: those of the given row (its listed variables as the program lays them). -/
namespace Go.Proofs.Ytphkjcmonjbpfaa
open Go Go.Fl Go.RowKit Go.ChangeShapes Go.WideShapes Go.ChangeAt

theorem rdt22 : RdT Try.prog 22 (eL eI) (ListP (okI .i64)) := RdT.slice RdT.int rfl rfl rfl
theorem rdt24t : RdT Try.prog 24 (eP (eL eI) (eP (eL eI) eU)) (AndP (ListP (okI .i64)) (AndP (ListP (okI .i64)) UnitP)) := by
  refine RdT.struct (l := [_, _]) Try.underlying24 rfl (by kernel_rfl) ?_
  refine FldT.cons rdt22 (by rfl) (by rfl) (by rfl) ?_
  refine FldT.cons rdt22 (by rfl) (by rfl) (by rfl) ?_
  exact FldT.nil
theorem rdt24 : RdT Try.prog 24 eO (fun o : Ori => ListP (okI .i64) o.1 ∧ ListP (okI .i64) o.2) := RdT.conv rdt24t (fun x => ((x.1, x.2.1) : Ori)) (fun _ _ _ h => h) (fun _ h => ⟨h.1, h.2.1⟩)
theorem own : ownKnob Try.prog.godebug = none := by kernel_rfl
set_option maxRecDepth 100000 in
theorem lifted0 (os : Os) (started : os.Started) (H : Type) (enc : TypeId × Value → H) :
    ReturnsInHanded {} Try.checked os 8 .any (fun w args => (Rows.origamiProofsSpec.pre enc Try.prog Try.f8 [] false w args ∧ True) ∧ sizedMet enc Try.prog Try.f8 (OpenSpec.ofChange Rows.origamiProofsSpec) false w args)
      (Rows.origamiProofsSpec.post enc Try.prog Try.f8 false true false false) := by
  refine returnsInHanded_of_change_and (C := Try.checked) (X := fun _ _ => True) (fun _ _ _ _ h => h) own started (by kernel_rfl) Try.func8
    (ChangeSpec.witness_shaped (enc := enc) (C := Try.checked) (os := os) (X := fun _ _ => True) false (World.laidAll Try.prog os Rows.origamiProofsRow.laid) #[.agg #[.slice none 0 0, .slice none 0 0], .agg #[.slice none 0 0, .slice none 0 0], .slice none 0 0] 8 (World.laidAll_os _ _ _)
      (World.shaped_of_ZipB (by kernel_rfl) (by kernel_rfl)) (by kernel_rfl) (by kernel_rfl) (by kernel_rfl)
      trivial) ?_
  intro W base args ds gs before hval0 hW _ hwt hL _
  have hval : ∀ (j : Nat) t v, Try.f8.params[j]? = some t → args[j]? = some v → Value.okWide Try.prog W .any base t v := hval0
  have hpost : ∀ W', Below W.heap.size W W' → Rows.origamiProofsSpec.post enc Try.prog Try.f8 false true false false W args (.bool true) W' := fun W' hb => law_post (by kernel_rfl) (by kernel_rfl) (by kernel_rfl) hW (by kernel_rfl) rfl (fun hg => by
    subst hg
    obtain ⟨p, q, hA0, _⟩ := hW
    have hA : DataW.TrodAll enc Try.prog W 0 (fun _ => true) true Try.f8.params.toList args.toList ds p := hA0
    rw [Try.params8] at hA
    obtain ⟨v0, v1, v2, d0, d1, d2, _, _, _, rfl, rfl, _, _, _, _⟩ := trodAll_three hA
    rfl) rfl Try.underlying4 hb
  have hW0 := hW
  obtain ⟨p, q, hA0, hV, rfl, _, _⟩ := hW0
  have hA : DataW.TrodAll enc Try.prog W 0 (fun _ => true) true Try.f8.params.toList args.toList ds p := hA0
  rw [Try.params8] at hA hval hwt
  obtain ⟨rfl, rfl⟩ := trodVars_none hV
  obtain ⟨v0, v1, v2, d0, d1, d2, _, _, _, rfl, rfl, _, h0, h1, h2⟩ := trodAll_three hA
  have hwt' : (DataW.weightsEach Try.prog [24, 24, 22] [d0, d1, d2]).all (· ≤ reachBytes) = true := hwt
  have w0 := weights_cons hwt'
  have w1 := weights_cons w0.2
  have w2 := weights_cons w1.2
  obtain ⟨x0, k0, r0⟩ := RdT.val (by exact rdt24 : RdT Try.prog 24 eO (fun o : Ori => ListP (okI .i64) o.1 ∧ ListP (okI .i64) o.2)) rfl (hval 0 24 v0 rfl rfl) h0 w0.1
  obtain ⟨x1, k1, r1⟩ := RdT.val (by exact rdt24 : RdT Try.prog 24 eO (fun o : Ori => ListP (okI .i64) o.1 ∧ ListP (okI .i64) o.2)) rfl (hval 1 24 v1 rfl rfl) h1 w1.1
  obtain ⟨x2, k2, r2⟩ := RdT.val (by exact rdt22 : RdT Try.prog 22 (eL eI) (ListP (okI .i64))) rfl (hval 2 22 v2 rfl rfl) h2 w2.1
  refine Ct.law (vs := #[v0, v1, v2]) (ct_OrigamiProofs x0 x1 x2) ?_ fun W' hb => ⟨_, rfl, hpost W' hb⟩
  exact ⟨k0, k1, k2, trivial⟩
theorem lifted (os : Os) (started : os.Started) (H : Type) (enc : TypeId × Value → H) :
    ReturnsInHanded {} Try.checked os 8 .any (fun w args => Rows.origamiProofsSpec.pre enc Try.prog Try.f8 [] false w args ∧ sizedMet enc Try.prog Try.f8 (OpenSpec.ofChange Rows.origamiProofsSpec) false w args)
      (Rows.origamiProofsSpec.post enc Try.prog Try.f8 false true false false) := by
  have h := lifted0 os started H enc
  simp only [and_true] at h
  exact h
theorem holds : Rows.origamiProofsRow.holds Try.pinned (OpenSpec.ofChange Rows.origamiProofsSpec) :=
  OpenClaim.holds_of_wide 8 Try.f8 rfl rfl rfl rfl rfl rfl rfl ⟨rfl, rfl, rfl, rfl, rfl⟩ rfl rfl rfl rfl rfl (by kernel_rfl) Try.func8 (by kernel_rfl)
    (of_decide_eq_true (by kernel_rfl)) (by unfold Func.isWrapper; first | (rw [if_pos (by decide +kernel)]; kernel_rfl) | (rw [if_neg (by decide +kernel)]; exact ⟨rfl, rfl⟩))
    (fun os started H enc _ => lifted os started H enc)
theorem origamiProofs_holds : Rows.OrigamiProofsSaid := holds
end Go.Proofs.Ytphkjcmonjbpfaa
