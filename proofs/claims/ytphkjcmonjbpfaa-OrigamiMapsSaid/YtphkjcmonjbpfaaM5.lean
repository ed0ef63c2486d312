/- THE LAW OrigamiMaps HOLDS FOR EVERY INPUT: whatever the arguments, the call returns true, and each argument reads behind it as before. Conditions: those of the given row (its listed variables as the program lays them). -/
import Derived.Test.YtphkjcmonjbpfaaM4
import Derived.Test.YtphkjcmonjbpfaaRows

/- Contracts: maps that are checked; the law of proofs. -/
namespace Go.Fl
open Go Go.Proofs

set_option maxRecDepth 100000 in
theorem ct_IndexFunc (xs : List Int) (f : FuncId) (q : Int → Bool) [TyFn Try.prog f] (hf : ∀ x, Ct Try.prog f [kI x] (kB (q x))) : Ct Try.prog 126 [kRd (eL eI) xs, kDet (.func (.func f) #[] #[])] (kI (idxF q xs)) := by
  refine Ct.mk Try.func126 rfl Try.ntmps126 rfl (fun w J => ?_)
  refine Tr.fact (s := 0) rfl (fun _ _ h => lenB h) (fun hb => ?_)
  refine Tr.seq ?_
  refine Tr.rg ?_
  refine TrL.op (ok_assign rfl (fun _ => rfl)) rfl rfl ?_
  refine TrL.fin ?_
  refine End.nxt ?_
  refine Tr.seq ?_
  refine Tr.seq ?_
  refine Tr.rg ?_
  refine TrL.op (ok_move rfl (fun _ => rfl)) rfl rfl ?_
  refine TrL.op (ok_lenJ rfl (fun _ => rfl)) rfl rfl ?_
  refine TrL.op (ok_move rfl (fun _ => rfl)) rfl rfl ?_
  refine TrL.fin ?_
  refine End.nxt ?_
  refine Tr.for1 (σ := Nat) [⟨0, true, _, _⟩, ⟨1, true, _, _⟩, ⟨7, true, _, _⟩] [] (fun k => [⟨8, true, [], kI (k : Int)⟩]) (fun k => []) (fun k => k ≤ xs.length ∧ ∀ i, i < k → q (nth xs i) = false) (fun k => ∀ i, i < xs.length → q (nth xs i) = false) (fun k => xs.length - k) (0) ⟨Nat.zero_le _, fun i h => absurd h (by omega)⟩ (Ent.mk (.i rfl (by first | rfl | omega | (simp; done) | (simp; omega) | assumption) <| .k rfl rfl <| .k rfl rfl <| .k rfl rfl <| .nil) (.nil) rfl) ?_ ?_
  · rintro k ⟨hk0, hR0⟩
    refine Tr.norm (S' := [⟨8, true, _, _⟩, ⟨0, true, _, _⟩, ⟨1, true, _, _⟩, ⟨7, true, _, _⟩]) (M' := []) rfl rfl ?_
    refine Tr.seq ?_
    refine Tr.rg ?_
    refine TrL.op (ok_lss rfl (fun _ => rfl) rfl (fun _ => rfl)) rfl rfl ?_
    refine TrL.fin ?_
    refine End.nxt ?_
    refine Tr.seq ?_
    refine Tr.cnd rfl ?_ ?_
    · intro h2
      replace h2 := of_decide_eq_true h2
      refine Tr.skip ?_
      refine End.nxt ?_
      refine Tr.seq ?_
      refine Tr.blk ?_
      refine Tr.seq ?_
      refine Tr.rg ?_
      refine TrL.op (ok_move rfl (fun _ => rfl)) rfl rfl ?_
      refine TrL.op (ok_assign rfl (fun _ => rfl)) rfl rfl ?_
      refine TrL.fin ?_
      refine End.nxt ?_
      refine Tr.seq ?_
      refine Tr.rg ?_
      refine TrL.op (ok_move rfl (fun _ => rfl)) rfl rfl ?_
      refine TrL.op (ok_move rfl (fun _ => rfl)) rfl rfl ?_
      refine TrL.op (ok_move rfl (fun _ => rfl)) rfl rfl ?_
      first | refine TrL.op (ok_idxN rfl (fun _ => rfl) rfl (fun _ => rfl) rfl (fun _ => by omega)) rfl rfl ?_ | refine TrL.op (ok_idxP rfl (fun _ => rfl) rfl (fun _ => rfl) rfl (fun _ => by omega)) rfl rfl ?_
      refine TrL.op (ok_ldP rfl (fun _ => rfl) rfl) rfl rfl ?_
      refine TrL.op (ok_callV rfl (fun _ => rfl) (fun hp => hf _) (.a rfl (fun _ => rfl) <| .nil)) rfl rfl ?_
      refine TrL.fin ?_
      refine End.nxt ?_
      refine Tr.cnd rfl ?_ ?_
      · intro h4
        refine Tr.seq ?_
        refine Tr.rg ?_
        refine TrL.op (ok_move rfl (fun _ => rfl)) rfl rfl ?_
        refine TrL.op (ok_assign rfl (fun _ => rfl)) rfl rfl ?_
        refine TrL.fin ?_
        refine End.nxt ?_
        refine Tr.ret ?_
        refine Rts.out ?_
        refine Rts.thn ?_
        refine Rts.thn ?_
        refine Rts.out ?_
        refine Rts.thn ?_
        refine Rts.thn ?_
        exact Rts.res1 (fn := Try.f126) rfl (.i rfl (idxF_at (by omega) hR0 h4) <| .nil)
      · intro h4
        refine Tr.skip ?_
        refine End.blk ?_
        refine End.nxt ?_
        refine Tr.rg ?_
        refine TrL.op (ok_add rfl (fun _ => rfl) rfl (fun _ => rfl) (fun _ => by omega)) rfl rfl ?_
        refine TrL.op (ok_move rfl (fun _ => rfl)) rfl rfl ?_
        refine TrL.fin ?_
        exact End.lp (k + 1) ⟨by omega, all_succ hR0 h4⟩ (by omega) (Ent.mk (.i rfl (by first | rfl | omega | (simp; done) | (simp; omega) | assumption) <| .k rfl rfl <| .k rfl rfl <| .k rfl rfl <| .nil) (.nil) rfl)
    · intro h2
      replace h2 := Int.not_lt.1 (of_decide_eq_false h2)
      refine Tr.exit ?_
      refine Exs.thn ?_
      refine Exs.thn ?_
      refine Exs.here ?_
      exact End.cut (k) (fun i hi => hR0 i (by omega)) (Ent.mk (.i rfl (by first | rfl | omega | (simp; done) | (simp; omega) | assumption) <| .k rfl rfl <| .k rfl rfl <| .k rfl rfl <| .nil) (.nil) rfl)
  · intro k hE0
    refine End.norm (S' := [⟨8, true, _, _⟩, ⟨0, true, _, _⟩, ⟨1, true, _, _⟩, ⟨7, true, _, _⟩]) (M' := []) rfl rfl ?_
    refine End.nxt ?_
    refine Tr.seq ?_
    refine Tr.rg ?_
    refine TrL.op (ok_assign rfl (fun _ => rfl)) rfl rfl ?_
    refine TrL.fin ?_
    refine End.nxt ?_
    refine Tr.ret ?_
    exact Rts.res1 (fn := Try.f126) rfl (.i rfl (idxF_none hE0) <| .nil)

set_option maxRecDepth 100000 in
theorem ct_IndexB (xs : List Bool) (v : Bool) : Ct Try.prog 130 [kRd (eL eBool) xs, kB v] (kI (idxF (fun x => decide (v = x)) xs)) := by
  refine Ct.mk Try.func130 rfl Try.ntmps130 rfl (fun w J => ?_)
  refine Tr.fact (s := 0) rfl (fun _ _ h => lenB h) (fun hb => ?_)
  refine Tr.seq ?_
  refine Tr.rg ?_
  refine TrL.op (ok_assign rfl (fun _ => rfl)) rfl rfl ?_
  refine TrL.fin ?_
  refine End.nxt ?_
  refine Tr.seq ?_
  refine Tr.seq ?_
  refine Tr.rg ?_
  refine TrL.op (ok_move rfl (fun _ => rfl)) rfl rfl ?_
  refine TrL.op (ok_lenJ rfl (fun _ => rfl)) rfl rfl ?_
  refine TrL.op (ok_move rfl (fun _ => rfl)) rfl rfl ?_
  refine TrL.fin ?_
  refine End.nxt ?_
  refine Tr.for1 (σ := Nat) [⟨0, true, _, _⟩, ⟨1, true, _, _⟩, ⟨7, true, _, _⟩] [] (fun k => [⟨8, true, [], kI (k : Int)⟩]) (fun k => []) (fun k => k ≤ xs.length ∧ ∀ i, i < k → (fun x => decide (v = x)) (nth xs i) = false) (fun k => ∀ i, i < xs.length → (fun x => decide (v = x)) (nth xs i) = false) (fun k => xs.length - k) (0) ⟨Nat.zero_le _, fun i h => absurd h (by omega)⟩ (Ent.mk (.i rfl (by first | rfl | omega | (simp; done) | (simp; omega) | assumption) <| .k rfl rfl <| .k rfl rfl <| .k rfl rfl <| .nil) (.nil) rfl) ?_ ?_
  · rintro k ⟨hk0, hR0⟩
    refine Tr.norm (S' := [⟨8, true, _, _⟩, ⟨0, true, _, _⟩, ⟨1, true, _, _⟩, ⟨7, true, _, _⟩]) (M' := []) rfl rfl ?_
    refine Tr.seq ?_
    refine Tr.rg ?_
    refine TrL.op (ok_lss rfl (fun _ => rfl) rfl (fun _ => rfl)) rfl rfl ?_
    refine TrL.fin ?_
    refine End.nxt ?_
    refine Tr.seq ?_
    refine Tr.cnd rfl ?_ ?_
    · intro h2
      replace h2 := of_decide_eq_true h2
      refine Tr.skip ?_
      refine End.nxt ?_
      refine Tr.seq ?_
      refine Tr.blk ?_
      refine Tr.seq ?_
      refine Tr.rg ?_
      refine TrL.op (ok_move rfl (fun _ => rfl)) rfl rfl ?_
      refine TrL.op (ok_assign rfl (fun _ => rfl)) rfl rfl ?_
      refine TrL.fin ?_
      refine End.nxt ?_
      refine Tr.seq ?_
      refine Tr.rg ?_
      refine TrL.op (ok_move rfl (fun _ => rfl)) rfl rfl ?_
      refine TrL.op (ok_move rfl (fun _ => rfl)) rfl rfl ?_
      refine TrL.op (ok_move rfl (fun _ => rfl)) rfl rfl ?_
      first | refine TrL.op (ok_idxN rfl (fun _ => rfl) rfl (fun _ => rfl) rfl (fun _ => by omega)) rfl rfl ?_ | refine TrL.op (ok_idxP rfl (fun _ => rfl) rfl (fun _ => rfl) rfl (fun _ => by omega)) rfl rfl ?_
      refine TrL.op (ok_ldP rfl (fun _ => rfl) rfl) rfl rfl ?_
      refine TrL.op (ok_eqlB rfl (fun _ => rfl) rfl (fun _ => rfl)) rfl rfl ?_
      refine TrL.fin ?_
      refine End.nxt ?_
      refine Tr.cnd rfl ?_ ?_
      · intro h4
        refine Tr.seq ?_
        refine Tr.rg ?_
        refine TrL.op (ok_move rfl (fun _ => rfl)) rfl rfl ?_
        refine TrL.op (ok_assign rfl (fun _ => rfl)) rfl rfl ?_
        refine TrL.fin ?_
        refine End.nxt ?_
        refine Tr.ret ?_
        refine Rts.out ?_
        refine Rts.thn ?_
        refine Rts.thn ?_
        refine Rts.out ?_
        refine Rts.thn ?_
        refine Rts.thn ?_
        exact Rts.res1 (fn := Try.f130) rfl (.i rfl (idxF_at (q := fun x => decide (v = x)) (by omega) hR0 h4) <| .nil)
      · intro h4
        refine Tr.skip ?_
        refine End.blk ?_
        refine End.nxt ?_
        refine Tr.rg ?_
        refine TrL.op (ok_add rfl (fun _ => rfl) rfl (fun _ => rfl) (fun _ => by omega)) rfl rfl ?_
        refine TrL.op (ok_move rfl (fun _ => rfl)) rfl rfl ?_
        refine TrL.fin ?_
        exact End.lp (k + 1) ⟨by omega, all_succ hR0 h4⟩ (by omega) (Ent.mk (.i rfl (by first | rfl | omega | (simp; done) | (simp; omega) | assumption) <| .k rfl rfl <| .k rfl rfl <| .k rfl rfl <| .nil) (.nil) rfl)
    · intro h2
      replace h2 := Int.not_lt.1 (of_decide_eq_false h2)
      refine Tr.exit ?_
      refine Exs.thn ?_
      refine Exs.thn ?_
      refine Exs.here ?_
      exact End.cut (k) (fun i hi => hR0 i (by omega)) (Ent.mk (.i rfl (by first | rfl | omega | (simp; done) | (simp; omega) | assumption) <| .k rfl rfl <| .k rfl rfl <| .k rfl rfl <| .nil) (.nil) rfl)
  · intro k hE0
    refine End.norm (S' := [⟨8, true, _, _⟩, ⟨0, true, _, _⟩, ⟨1, true, _, _⟩, ⟨7, true, _, _⟩]) (M' := []) rfl rfl ?_
    refine End.nxt ?_
    refine Tr.seq ?_
    refine Tr.rg ?_
    refine TrL.op (ok_assign rfl (fun _ => rfl)) rfl rfl ?_
    refine TrL.fin ?_
    refine End.nxt ?_
    refine Tr.ret ?_
    exact Rts.res1 (fn := Try.f130) rfl (.i rfl (idxF_none (q := fun x => decide (v = x)) hE0) <| .nil)

set_option maxRecDepth 100000 in
theorem ct_ContainsB (xs : List Bool) (v : Bool) : Ct Try.prog 119 [kRd (eL eBool) xs, kB v] (kB (xs.any fun x => decide (v = x))) := by
  refine Ct.mk Try.func119 rfl Try.ntmps119 rfl (fun w J => ?_)
  refine Tr.seq ?_
  refine Tr.rg ?_
  refine TrL.op (ok_assign rfl (fun _ => rfl)) rfl rfl ?_
  refine TrL.fin ?_
  refine End.nxt ?_
  refine Tr.seq ?_
  refine Tr.rg ?_
  refine TrL.op (ok_move rfl (fun _ => rfl)) rfl rfl ?_
  refine TrL.op (ok_move rfl (fun _ => rfl)) rfl rfl ?_
  refine TrL.op (ok_call (fun hp => ct_IndexB _ _) (.a rfl (fun _ => rfl) <| .a rfl (fun _ => rfl) <| .nil)) rfl rfl ?_
  refine TrL.op (ok_geq rfl (fun _ => rfl) rfl (fun _ => rfl)) rfl rfl ?_
  refine TrL.op (ok_assign rfl (fun _ => rfl)) rfl rfl ?_
  refine TrL.fin ?_
  refine End.nxt ?_
  refine Tr.ret ?_
  exact Rts.res1 (fn := Try.f119) rfl (.b rfl idxF_nonneg <| .nil)

set_option maxRecDepth 100000 in
set_option maxHeartbeats 1000000 in
theorem ct_rIsMap (a b : Ori) (f : List Int) (va : Valid a) (vb : Valid b) (hl : f.length = a.1.length) (hr : inR f b.1.length) : Ct Try.prog 93 [kRd eO a, kRd eO b, kRd (eL eI) f] (kB (isMapB a b f)) := by
  have hva := va.len
  have hvb := vb.len
  have hvl := va.le
  refine Ct.mk Try.func93 rfl Try.ntmps93 rfl (fun w J => ?_)
  refine Tr.seq ?_
  refine Tr.rg ?_
  refine TrL.new (ok_box 3 rfl (fun _ => rfl) rfl) rfl rfl rfl rfl ?_
  refine TrL.new (ok_box 4 rfl (fun _ => rfl) rfl) rfl rfl rfl rfl ?_
  refine TrL.op (ok_assign rfl (fun _ => rfl)) rfl rfl ?_
  refine TrL.fin ?_
  refine End.nxt ?_
  refine Tr.seq ?_
  refine Tr.seq ?_
  refine Tr.rg ?_
  refine TrL.op (ok_assign rfl (fun _ => rfl)) rfl rfl ?_
  refine TrL.fin ?_
  refine End.nxt ?_
  refine Tr.for1 (σ := Nat) [⟨2, true, _, _⟩, ⟨3, true, _, _⟩, ⟨4, true, _, _⟩] [⟨3, _, _⟩, ⟨4, _, _⟩] (fun k => [⟨7, true, [], kI (k : Int)⟩]) (fun k => []) (fun k => k ≤ a.1.length ∧ ∀ i, i < k → (ap f (nth a.1 i) = ap b.1 (nth f i) ∧ ap f (nth a.2 i) = ap b.2 (nth f i))) (fun k => ∀ i, i < a.1.length → (ap f (nth a.1 i) = ap b.1 (nth f i) ∧ ap f (nth a.2 i) = ap b.2 (nth f i))) (fun k => a.1.length - k) (0) ⟨Nat.zero_le _, fun i h => absurd h (by omega)⟩ (Ent.mk (.i rfl (by first | rfl | omega | (simp; done) | (simp; omega) | assumption) <| .k rfl rfl <| .k rfl rfl <| .k rfl rfl <| .nil) (.k rfl <| .k rfl <| .nil) rfl) ?_ ?_
  · rintro k ⟨hk0, hR0⟩
    refine Tr.norm (S' := [⟨7, true, _, _⟩, ⟨2, true, _, _⟩, ⟨3, true, _, _⟩, ⟨4, true, _, _⟩]) (M' := [⟨3, _, _⟩, ⟨4, _, _⟩]) rfl rfl ?_
    refine Tr.seq ?_
    refine Tr.seq ?_
    refine Tr.rg ?_
    refine TrL.op (ok_move rfl (fun _ => rfl)) rfl rfl ?_
    refine TrL.op (ok_ldBS rfl (fun _ => rfl)) rfl rfl ?_
    refine TrL.op (ok_call (fun hp => ct_rSize _) (.s rfl (fun _ => rfl) rfl <| .nil)) rfl rfl ?_
    refine TrL.op (ok_lss rfl (fun _ => rfl) rfl (fun _ => rfl)) rfl rfl ?_
    refine TrL.fin ?_
    refine End.nxt ?_
    refine Tr.cnd rfl ?_ ?_
    · intro h2
      replace h2 := of_decide_eq_true h2
      refine Tr.skip ?_
      refine End.nxt ?_
      refine Tr.seq ?_
      refine Tr.blk ?_
      refine Tr.seq ?_
      refine Tr.draw 34 mixed (by kernel_rfl) ?_
      have a1 := va.ri (i := k) (by omega)
      have a2 := va.ui (i := k) (by omega)
      have a3 := hr k (by omega)
      have a4 := hr (nth a.1 k).toNat (by omega)
      have a5 := hr (nth a.2 k).toNat (by omega)
      refine RunD.op (ok_move rfl (fun _ => rfl)) rfl rfl ?_
      refine RunD.op (ok_fldO rfl (fun _ => rfl)) rfl rfl ?_
      refine RunD.op (ok_ldB rfl (fun _ => rfl) rfl) rfl rfl ?_
      refine RunD.op (ok_move rfl (fun _ => rfl)) rfl rfl ?_
      first | refine RunD.op (ok_idxN rfl (fun _ => rfl) rfl (fun _ => rfl) rfl (fun _ => by omega)) rfl rfl ?_ | refine RunD.op (ok_idxP rfl (fun _ => rfl) rfl (fun _ => rfl) rfl (fun _ => by omega)) rfl rfl ?_
      refine RunD.op (ok_ldP rfl (fun _ => rfl) rfl) rfl rfl ?_
      first | refine RunD.op (ok_idxN rfl (fun _ => rfl) rfl (fun _ => rfl) rfl (fun _ => by omega)) rfl rfl ?_ | refine RunD.op (ok_idxP rfl (fun _ => rfl) rfl (fun _ => rfl) rfl (fun _ => by omega)) rfl rfl ?_
      refine RunD.op (ok_ldP rfl (fun _ => rfl) rfl) rfl rfl ?_
      refine RunD.op (ok_fldO rfl (fun _ => rfl)) rfl rfl ?_
      refine RunD.op (ok_ldB rfl (fun _ => rfl) rfl) rfl rfl ?_
      refine RunD.op (ok_move rfl (fun _ => rfl)) rfl rfl ?_
      refine RunD.op (ok_move rfl (fun _ => rfl)) rfl rfl ?_
      first | refine RunD.op (ok_idxN rfl (fun _ => rfl) rfl (fun _ => rfl) rfl (fun _ => by omega)) rfl rfl ?_ | refine RunD.op (ok_idxP rfl (fun _ => rfl) rfl (fun _ => rfl) rfl (fun _ => by omega)) rfl rfl ?_
      refine RunD.op (ok_ldP rfl (fun _ => rfl) rfl) rfl rfl ?_
      first | refine RunD.op (ok_idxN rfl (fun _ => rfl) rfl (fun _ => rfl) rfl (fun _ => by omega)) rfl rfl ?_ | refine RunD.op (ok_idxP rfl (fun _ => rfl) rfl (fun _ => rfl) rfl (fun _ => by omega)) rfl rfl ?_
      refine RunD.op (ok_ldP rfl (fun _ => rfl) rfl) rfl rfl ?_
      refine RunD.op (ok_neq rfl (fun _ => rfl) rfl (fun _ => rfl)) rfl rfl ?_
      refine RunD.op (ok_move rfl (fun _ => rfl)) rfl rfl ?_
      refine RunD.gd rfl rfl rfl (ok_move rfl (fun _ => rfl)) rfl rfl ?_
      refine RunD.gd rfl rfl rfl (ok_fldO rfl (fun _ => rfl)) rfl rfl ?_
      refine RunD.gd rfl rfl rfl (ok_ldB rfl id rfl) rfl rfl ?_
      refine RunD.gd rfl rfl rfl (ok_move rfl (fun _ => rfl)) rfl rfl ?_
      first | refine RunD.gd rfl rfl rfl (ok_idxN rfl id rfl id rfl (fun hp => by simp at hp; omega)) rfl rfl ?_ | refine RunD.gd rfl rfl rfl (ok_idxP rfl id rfl id rfl (fun hp => by simp at hp; omega)) rfl rfl ?_
      refine RunD.gd rfl rfl rfl (ok_ldP rfl id rfl) rfl rfl ?_
      first | refine RunD.gd rfl rfl rfl (ok_idxN rfl id rfl id rfl (fun hp => by simp at hp; omega)) rfl rfl ?_ | refine RunD.gd rfl rfl rfl (ok_idxP rfl id rfl id rfl (fun hp => by simp at hp; omega)) rfl rfl ?_
      refine RunD.gd rfl rfl rfl (ok_ldP rfl id rfl) rfl rfl ?_
      refine RunD.gd rfl rfl rfl (ok_fldO rfl (fun _ => rfl)) rfl rfl ?_
      refine RunD.gd rfl rfl rfl (ok_ldB rfl id rfl) rfl rfl ?_
      refine RunD.gd rfl rfl rfl (ok_move rfl (fun _ => rfl)) rfl rfl ?_
      refine RunD.gd rfl rfl rfl (ok_move rfl (fun _ => rfl)) rfl rfl ?_
      first | refine RunD.gd rfl rfl rfl (ok_idxN rfl id rfl id rfl (fun hp => by simp at hp; omega)) rfl rfl ?_ | refine RunD.gd rfl rfl rfl (ok_idxP rfl id rfl id rfl (fun hp => by simp at hp; omega)) rfl rfl ?_
      refine RunD.gd rfl rfl rfl (ok_ldP rfl id rfl) rfl rfl ?_
      first | refine RunD.gd rfl rfl rfl (ok_idxN rfl id rfl id rfl (fun hp => by simp at hp; omega)) rfl rfl ?_ | refine RunD.gd rfl rfl rfl (ok_idxP rfl id rfl id rfl (fun hp => by simp at hp; omega)) rfl rfl ?_
      refine RunD.gd rfl rfl rfl (ok_ldP rfl id rfl) rfl rfl ?_
      refine RunD.z ?_
      refine TrL.gd rfl rfl rfl (ok_neq rfl id rfl id) rfl rfl ?_
      refine TrL.op (ok_or rfl (fun _ => rfl) rfl (fun hp h => gdF2 ((fun _ => rfl) hp) h)) rfl rfl ?_
      refine TrL.fin ?_
      refine End.nxt ?_
      refine Tr.cnd rfl ?_ ?_
      · intro h4
        refine Tr.seq ?_
        refine Tr.rg ?_
        refine TrL.op (ok_assign rfl (fun _ => rfl)) rfl rfl ?_
        refine TrL.fin ?_
        refine End.nxt ?_
        refine Tr.ret ?_
        refine Rts.out ?_
        refine Rts.thn ?_
        refine Rts.thn ?_
        refine Rts.out ?_
        refine Rts.thn ?_
        refine Rts.thn ?_
        exact Rts.res1 (fn := Try.f93) rfl (.b rfl (isMapB_not (k := k) (by omega) (by unfold ap; simp at h4; intro hh; rcases h4 with h | h; exact h hh.1; exact h hh.2)).symm <| .nil)
      · intro h4
        refine Tr.skip ?_
        refine End.blk ?_
        refine End.nxt ?_
        refine Tr.rg ?_
        refine TrL.op (ok_move rfl (fun _ => rfl)) rfl rfl ?_
        refine TrL.op (ok_add rfl (fun _ => rfl) rfl (fun _ => rfl) (fun _ => by omega)) rfl rfl ?_
        refine TrL.op (ok_assign rfl (fun _ => rfl)) rfl rfl ?_
        refine TrL.fin ?_
        exact End.lp (k + 1) ⟨by omega, all_succ hR0 (by unfold ap; simp at h4; exact h4)⟩ (by omega) (Ent.mk (.i rfl (by first | rfl | omega | (simp; done) | (simp; omega) | assumption) <| .k rfl rfl <| .k rfl rfl <| .k rfl rfl <| .nil) (.k rfl <| .k rfl <| .nil) rfl)
    · intro h2
      replace h2 := Int.not_lt.1 (of_decide_eq_false h2)
      refine Tr.exit ?_
      refine Exs.thn ?_
      refine Exs.thn ?_
      refine Exs.here ?_
      exact End.cut (k) (fun i hi => hR0 i (by omega)) (Ent.mk (.i rfl (by first | rfl | omega | (simp; done) | (simp; omega) | assumption) <| .k rfl rfl <| .k rfl rfl <| .k rfl rfl <| .nil) (.k rfl <| .k rfl <| .nil) rfl)
  · intro k hE0
    refine End.norm (S' := [⟨7, true, _, _⟩, ⟨2, true, _, _⟩, ⟨3, true, _, _⟩, ⟨4, true, _, _⟩]) (M' := [⟨3, _, _⟩, ⟨4, _, _⟩]) rfl rfl ?_
    refine End.nxt ?_
    refine Tr.seq ?_
    refine Tr.rg ?_
    refine TrL.op (ok_assign rfl (fun _ => rfl)) rfl rfl ?_
    refine TrL.fin ?_
    refine End.nxt ?_
    refine Tr.ret ?_
    exact Rts.res1 (fn := Try.f93) rfl (.b rfl (isMapB_all hE0).symm <| .nil)

set_option maxRecDepth 100000 in
theorem ct_rOnto (b : Ori) (f : List Int) (vb : Valid b) : Ct Try.prog 94 [kRd eO b, kRd (eL eI) f] (kB (ontoB b.1.length f)) := by
  have hvl := vb.le
  refine Ct.mk Try.func94 rfl Try.ntmps94 rfl (fun w J => ?_)
  refine Tr.seq ?_
  refine Tr.rg ?_
  refine TrL.new (ok_box 2 rfl (fun _ => rfl) rfl) rfl rfl rfl rfl ?_
  refine TrL.op (ok_assign rfl (fun _ => rfl)) rfl rfl ?_
  refine TrL.fin ?_
  refine End.nxt ?_
  refine Tr.seq ?_
  refine Tr.seq ?_
  refine Tr.rg ?_
  refine TrL.op (ok_assign rfl (fun _ => rfl)) rfl rfl ?_
  refine TrL.fin ?_
  refine End.nxt ?_
  refine Tr.for1 (σ := Nat) [⟨1, true, _, _⟩, ⟨2, true, _, _⟩] [⟨2, _, _⟩] (fun k => [⟨5, true, [], kI (k : Int)⟩]) (fun k => []) (fun k => k ≤ b.1.length ∧ ∀ i, i < k → ((i : Nat) : Int) ∈ f) (fun k => ∀ i, i < b.1.length → ((i : Nat) : Int) ∈ f) (fun k => b.1.length - k) (0) ⟨Nat.zero_le _, fun i h => absurd h (by omega)⟩ (Ent.mk (.i rfl (by first | rfl | omega | (simp; done) | (simp; omega) | assumption) <| .k rfl rfl <| .k rfl rfl <| .nil) (.k rfl <| .nil) rfl) ?_ ?_
  · rintro k ⟨hk0, hR0⟩
    refine Tr.norm (S' := [⟨5, true, _, _⟩, ⟨1, true, _, _⟩, ⟨2, true, _, _⟩]) (M' := [⟨2, _, _⟩]) rfl rfl ?_
    refine Tr.seq ?_
    refine Tr.seq ?_
    refine Tr.rg ?_
    refine TrL.op (ok_move rfl (fun _ => rfl)) rfl rfl ?_
    refine TrL.op (ok_ldBS rfl (fun _ => rfl)) rfl rfl ?_
    refine TrL.op (ok_call (fun hp => ct_rSize _) (.s rfl (fun _ => rfl) rfl <| .nil)) rfl rfl ?_
    refine TrL.op (ok_lss rfl (fun _ => rfl) rfl (fun _ => rfl)) rfl rfl ?_
    refine TrL.fin ?_
    refine End.nxt ?_
    refine Tr.cnd rfl ?_ ?_
    · intro h2
      replace h2 := of_decide_eq_true h2
      refine Tr.skip ?_
      refine End.nxt ?_
      refine Tr.seq ?_
      refine Tr.blk ?_
      refine Tr.seq ?_
      refine Tr.rg ?_
      refine TrL.op (ok_move rfl (fun _ => rfl)) rfl rfl ?_
      refine TrL.op (ok_move rfl (fun _ => rfl)) rfl rfl ?_
      refine TrL.op (ok_call (fun hp => ct_rAt _ _) (.a rfl (fun _ => rfl) <| .a rfl (fun _ => rfl) <| .nil)) rfl rfl ?_
      refine TrL.op (ok_lss rfl (fun _ => rfl) rfl (fun _ => rfl)) rfl rfl ?_
      refine TrL.fin ?_
      refine End.nxt ?_
      refine Tr.cnd rfl ?_ ?_
      · intro h4
        replace h4 := of_decide_eq_true h4
        refine Tr.seq ?_
        refine Tr.rg ?_
        refine TrL.op (ok_assign rfl (fun _ => rfl)) rfl rfl ?_
        refine TrL.fin ?_
        refine End.nxt ?_
        refine Tr.ret ?_
        refine Rts.out ?_
        refine Rts.thn ?_
        refine Rts.thn ?_
        refine Rts.out ?_
        refine Rts.thn ?_
        refine Rts.thn ?_
        exact Rts.res1 (fn := Try.f94) rfl (.b rfl (ontoB_not (k := k) (by omega) (atL_neg.1 h4)).symm <| .nil)
      · intro h4
        replace h4 := Int.not_lt.1 (of_decide_eq_false h4)
        refine Tr.skip ?_
        refine End.blk ?_
        refine End.nxt ?_
        refine Tr.rg ?_
        refine TrL.op (ok_move rfl (fun _ => rfl)) rfl rfl ?_
        refine TrL.op (ok_add rfl (fun _ => rfl) rfl (fun _ => rfl) (fun _ => by omega)) rfl rfl ?_
        refine TrL.op (ok_assign rfl (fun _ => rfl)) rfl rfl ?_
        refine TrL.fin ?_
        exact End.lp (k + 1) ⟨by omega, all_succ hR0 (Classical.not_not.1 (fun hh => absurd (atL_neg.2 hh) (by omega)))⟩ (by omega) (Ent.mk (.i rfl (by first | rfl | omega | (simp; done) | (simp; omega) | assumption) <| .k rfl rfl <| .k rfl rfl <| .nil) (.k rfl <| .nil) rfl)
    · intro h2
      replace h2 := Int.not_lt.1 (of_decide_eq_false h2)
      refine Tr.exit ?_
      refine Exs.thn ?_
      refine Exs.thn ?_
      refine Exs.here ?_
      exact End.cut (k) (fun i hi => hR0 i (by omega)) (Ent.mk (.i rfl (by first | rfl | omega | (simp; done) | (simp; omega) | assumption) <| .k rfl rfl <| .k rfl rfl <| .nil) (.k rfl <| .nil) rfl)
  · intro k hE0
    refine End.norm (S' := [⟨5, true, _, _⟩, ⟨1, true, _, _⟩, ⟨2, true, _, _⟩]) (M' := [⟨2, _, _⟩]) rfl rfl ?_
    refine End.nxt ?_
    refine Tr.seq ?_
    refine Tr.rg ?_
    refine TrL.op (ok_assign rfl (fun _ => rfl)) rfl rfl ?_
    refine TrL.fin ?_
    refine End.nxt ?_
    refine Tr.ret ?_
    exact Rts.res1 (fn := Try.f94) rfl (.b rfl (ontoB_all hE0).symm <| .nil)

set_option maxRecDepth 100000 in
theorem ct_rCheckMap (a b : Ori) (f : List Int) (same : Bool) : Ct Try.prog 45 [kRd eO a, kRd eO b, kRd (eL eI) f, kB same] (kI (cmE a b f same)) := by
  refine Ct.mk Try.func45 rfl Try.ntmps45 rfl (fun w J => ?_)
  refine Tr.fact (s := 2) rfl (fun _ _ h => lenB h) (fun hb => ?_)
  refine Tr.seq ?_
  refine Tr.rg ?_
  refine TrL.new (ok_box 4 rfl (fun _ => rfl) rfl) rfl rfl rfl rfl ?_
  refine TrL.new (ok_box 5 rfl (fun _ => rfl) rfl) rfl rfl rfl rfl ?_
  refine TrL.op (ok_assign rfl (fun _ => rfl)) rfl rfl ?_
  refine TrL.fin ?_
  refine End.nxt ?_
  refine Tr.seq ?_
  refine Tr.seq ?_
  refine Tr.rg ?_
  refine TrL.op (ok_ldBS rfl (fun _ => rfl)) rfl rfl ?_
  refine TrL.op (ok_call (fun hp => ct_rCheck _) (.s rfl (fun _ => rfl) rfl <| .nil)) rfl rfl ?_
  refine TrL.op (ok_assign rfl (fun _ => rfl)) rfl rfl ?_
  refine TrL.fin ?_
  refine End.nxt ?_
  refine Tr.seq ?_
  refine Tr.rg ?_
  refine TrL.op (ok_move rfl (fun _ => rfl)) rfl rfl ?_
  refine TrL.op (ok_neq rfl (fun _ => rfl) rfl (fun _ => rfl)) rfl rfl ?_
  refine TrL.fin ?_
  refine End.nxt ?_
  refine Tr.cnd rfl ?_ ?_
  · intro h2
    replace h2 := of_decide_eq_true h2
    refine Tr.seq ?_
    refine Tr.rg ?_
    refine TrL.op (ok_move rfl (fun _ => rfl)) rfl rfl ?_
    refine TrL.op (ok_assign rfl (fun _ => rfl)) rfl rfl ?_
    refine TrL.fin ?_
    refine End.nxt ?_
    refine Tr.ret ?_
    refine Rts.thn ?_
    exact Rts.res1 (fn := Try.f45) rfl (.i rfl (cmE_a h2).symm <| .nil)
  · intro h2
    replace h2 := Classical.not_not.1 (of_decide_eq_false h2)
    have va : Valid a := valid_of h2
    refine Tr.skip ?_
    refine End.nxt ?_
    refine Tr.seq ?_
    refine Tr.seq ?_
    refine Tr.rg ?_
    refine TrL.op (ok_ldBS rfl (fun _ => rfl)) rfl rfl ?_
    refine TrL.op (ok_call (fun hp => ct_rCheck _) (.s rfl (fun _ => rfl) rfl <| .nil)) rfl rfl ?_
    refine TrL.op (ok_assign rfl (fun _ => rfl)) rfl rfl ?_
    refine TrL.fin ?_
    refine End.nxt ?_
    refine Tr.seq ?_
    refine Tr.rg ?_
    refine TrL.op (ok_move rfl (fun _ => rfl)) rfl rfl ?_
    refine TrL.op (ok_neq rfl (fun _ => rfl) rfl (fun _ => rfl)) rfl rfl ?_
    refine TrL.fin ?_
    refine End.nxt ?_
    refine Tr.cnd rfl ?_ ?_
    · intro h5
      replace h5 := of_decide_eq_true h5
      refine Tr.seq ?_
      refine Tr.rg ?_
      refine TrL.op (ok_move rfl (fun _ => rfl)) rfl rfl ?_
      refine TrL.op (ok_assign rfl (fun _ => rfl)) rfl rfl ?_
      refine TrL.fin ?_
      refine End.nxt ?_
      refine Tr.ret ?_
      refine Rts.thn ?_
      exact Rts.res1 (fn := Try.f45) rfl (.i rfl (cmE_b h2 h5).symm <| .nil)
    · intro h5
      replace h5 := Classical.not_not.1 (of_decide_eq_false h5)
      have vb : Valid b := valid_of h5
      have hvl := va.le
      have hvl2 := vb.le
      refine Tr.skip ?_
      refine End.nxt ?_
      refine Tr.seq ?_
      refine Tr.seq ?_
      refine Tr.draw 11 mixed (by kernel_rfl) ?_
      refine RunD.op (ok_move rfl (fun _ => rfl)) rfl rfl ?_
      refine RunD.op (ok_lenJ rfl (fun _ => rfl)) rfl rfl ?_
      refine RunD.op (ok_ldBS rfl (fun _ => rfl)) rfl rfl ?_
      refine RunD.op (ok_call (fun hp => ct_rSize _) (.s rfl (fun _ => rfl) rfl <| .nil)) rfl rfl ?_
      refine RunD.op (ok_neq rfl (fun _ => rfl) rfl (fun _ => rfl)) rfl rfl ?_
      refine RunD.op (ok_move rfl (fun _ => rfl)) rfl rfl ?_
      refine RunD.gd rfl rfl rfl (ok_move rfl (fun _ => rfl)) rfl rfl ?_
      refine RunD.gd rfl rfl rfl (ok_move rfl id) rfl rfl ?_
      refine RunD.gd rfl rfl rfl (ok_ldBS rfl (fun _ => rfl)) rfl rfl ?_
      refine RunD.gd rfl rfl rfl (ok_call (fun hp => ct_rSize _) (.s rfl id rfl <| .nil)) rfl rfl ?_
      refine RunD.gd rfl rfl rfl (ok_ldBS rfl (fun _ => rfl)) rfl rfl ?_
      refine RunD.z ?_
      refine TrL.gd rfl rfl rfl (ok_call (fun hp => ct_rSize _) (.s rfl id rfl <| .nil)) rfl rfl ?_
      refine TrL.gd rfl rfl rfl (ok_neq rfl id rfl id) rfl rfl ?_
      refine TrL.gd rfl rfl rfl (ok_and rfl id rfl (fun hp h => gdT2 (id hp) h)) rfl rfl ?_
      refine TrL.op (ok_or rfl (fun _ => rfl) rfl (fun hp h => gdF2 ((fun _ => rfl) hp) h)) rfl rfl ?_
      refine TrL.fin ?_
      refine End.nxt ?_
      refine Tr.cnd rfl ?_ ?_
      · intro h7
        rw [shp1] at h7
        have hs := of_decide_eq_true h7
        refine Tr.seq ?_
        refine Tr.rg ?_
        refine TrL.op (ok_assign rfl (fun _ => rfl)) rfl rfl ?_
        refine TrL.fin ?_
        refine End.nxt ?_
        refine Tr.ret ?_
        refine Rts.thn ?_
        exact Rts.res1 (fn := Try.f45) rfl (.i rfl (cmE_s h2 h5 hs).symm <| .nil)
      · intro h7
        rw [shp1] at h7
        have hs := of_decide_eq_false h7
        have hfl : f.length = a.1.length := Classical.byContradiction fun hh => hs (.inl hh)
        refine Tr.skip ?_
        refine End.nxt ?_
        refine Tr.seq ?_
        refine Tr.seq ?_
        refine Tr.rg ?_
        refine TrL.op (ok_assign rfl (fun _ => rfl)) rfl rfl ?_
        refine TrL.fin ?_
        refine End.nxt ?_
        refine Tr.for1 (σ := Nat) [⟨2, true, _, _⟩, ⟨4, true, _, _⟩, ⟨5, true, _, _⟩] [⟨4, _, _⟩, ⟨5, _, _⟩] (fun k => [⟨11, true, [], kI (k : Int)⟩]) (fun k => []) (fun k => k ≤ f.length ∧ ∀ i, i < k → 0 ≤ nth f i ∧ nth f i < b.1.length) (fun k => inR f b.1.length) (fun k => f.length - k) (0) ⟨Nat.zero_le _, fun i h => absurd h (by omega)⟩ (Ent.mk (.i rfl (by first | rfl | omega | (simp; done) | (simp; omega) | assumption) <| .k rfl rfl <| .k rfl rfl <| .k rfl rfl <| .nil) (.k rfl <| .k rfl <| .nil) rfl) ?_ ?_
        · rintro k ⟨hk0, hR0⟩
          refine Tr.norm (S' := [⟨11, true, _, _⟩, ⟨2, true, _, _⟩, ⟨4, true, _, _⟩, ⟨5, true, _, _⟩]) (M' := [⟨4, _, _⟩, ⟨5, _, _⟩]) rfl rfl ?_
          refine Tr.seq ?_
          refine Tr.seq ?_
          refine Tr.rg ?_
          refine TrL.op (ok_move rfl (fun _ => rfl)) rfl rfl ?_
          refine TrL.op (ok_move rfl (fun _ => rfl)) rfl rfl ?_
          refine TrL.op (ok_lenJ rfl (fun _ => rfl)) rfl rfl ?_
          refine TrL.op (ok_lss rfl (fun _ => rfl) rfl (fun _ => rfl)) rfl rfl ?_
          refine TrL.fin ?_
          refine End.nxt ?_
          refine Tr.cnd rfl ?_ ?_
          · intro h10
            replace h10 := of_decide_eq_true h10
            refine Tr.skip ?_
            refine End.nxt ?_
            refine Tr.seq ?_
            refine Tr.blk ?_
            refine Tr.seq ?_
            refine Tr.draw 12 mixed (by kernel_rfl) ?_
            refine RunD.op (ok_move rfl (fun _ => rfl)) rfl rfl ?_
            refine RunD.op (ok_move rfl (fun _ => rfl)) rfl rfl ?_
            first | refine RunD.op (ok_idxN rfl (fun _ => rfl) rfl (fun _ => rfl) rfl (fun _ => by omega)) rfl rfl ?_ | refine RunD.op (ok_idxP rfl (fun _ => rfl) rfl (fun _ => rfl) rfl (fun _ => by omega)) rfl rfl ?_
            refine RunD.op (ok_ldP rfl (fun _ => rfl) rfl) rfl rfl ?_
            refine RunD.op (ok_lss rfl (fun _ => rfl) rfl (fun _ => rfl)) rfl rfl ?_
            refine RunD.op (ok_move rfl (fun _ => rfl)) rfl rfl ?_
            refine RunD.gd rfl rfl rfl (ok_move rfl (fun _ => rfl)) rfl rfl ?_
            refine RunD.gd rfl rfl rfl (ok_move rfl (fun _ => rfl)) rfl rfl ?_
            first | refine RunD.gd rfl rfl rfl (ok_idxN rfl id rfl id rfl (fun hp => by simp at hp; omega)) rfl rfl ?_ | refine RunD.gd rfl rfl rfl (ok_idxP rfl id rfl id rfl (fun hp => by simp at hp; omega)) rfl rfl ?_
            refine RunD.gd rfl rfl rfl (ok_ldP rfl id rfl) rfl rfl ?_
            refine RunD.gd rfl rfl rfl (ok_ldBS rfl (fun _ => rfl)) rfl rfl ?_
            refine RunD.gd rfl rfl rfl (ok_call (fun hp => ct_rSize _) (.s rfl id rfl <| .nil)) rfl rfl ?_
            refine RunD.z ?_
            refine TrL.gd rfl rfl rfl (ok_geq rfl id rfl id) rfl rfl ?_
            refine TrL.op (ok_or rfl (fun _ => rfl) rfl (fun hp h => gdF2 ((fun _ => rfl) hp) h)) rfl rfl ?_
            refine TrL.fin ?_
            refine End.nxt ?_
            refine Tr.cnd rfl ?_ ?_
            · intro h12
              simp at h12
              refine Tr.seq ?_
              refine Tr.rg ?_
              refine TrL.op (ok_assign rfl (fun _ => rfl)) rfl rfl ?_
              refine TrL.fin ?_
              refine End.nxt ?_
              refine Tr.ret ?_
              refine Rts.out ?_
              refine Rts.thn ?_
              refine Rts.thn ?_
              refine Rts.out ?_
              refine Rts.thn ?_
              refine Rts.thn ?_
              exact Rts.res1 (fn := Try.f45) rfl (.i rfl (cmE_r h2 h5 hs (k := k) (by omega) (by omega)).symm <| .nil)
            · intro h12
              simp at h12
              refine Tr.skip ?_
              refine End.blk ?_
              refine End.nxt ?_
              refine Tr.rg ?_
              refine TrL.op (ok_move rfl (fun _ => rfl)) rfl rfl ?_
              refine TrL.op (ok_add rfl (fun _ => rfl) rfl (fun _ => rfl) (fun _ => by omega)) rfl rfl ?_
              refine TrL.op (ok_assign rfl (fun _ => rfl)) rfl rfl ?_
              refine TrL.fin ?_
              exact End.lp (k + 1) ⟨by omega, all_succ hR0 (by omega)⟩ (by omega) (Ent.mk (.i rfl (by first | rfl | omega | (simp; done) | (simp; omega) | assumption) <| .k rfl rfl <| .k rfl rfl <| .k rfl rfl <| .nil) (.k rfl <| .k rfl <| .nil) rfl)
          · intro h10
            replace h10 := Int.not_lt.1 (of_decide_eq_false h10)
            refine Tr.exit ?_
            refine Exs.thn ?_
            refine Exs.thn ?_
            refine Exs.here ?_
            exact End.cut (k) (fun i hi => hR0 i (by omega)) (Ent.mk (.i rfl (by first | rfl | omega | (simp; done) | (simp; omega) | assumption) <| .k rfl rfl <| .k rfl rfl <| .k rfl rfl <| .nil) (.k rfl <| .k rfl <| .nil) rfl)
        · intro k hE0
          refine End.norm (S' := [⟨11, true, _, _⟩, ⟨2, true, _, _⟩, ⟨4, true, _, _⟩, ⟨5, true, _, _⟩]) (M' := [⟨4, _, _⟩, ⟨5, _, _⟩]) rfl rfl ?_
          refine End.nxt ?_
          refine Tr.seq ?_
          refine Tr.seq ?_
          refine Tr.rg ?_
          refine TrL.op (ok_ldBS rfl (fun _ => rfl)) rfl rfl ?_
          refine TrL.op (ok_ldBS rfl (fun _ => rfl)) rfl rfl ?_
          refine TrL.op (ok_move rfl (fun _ => rfl)) rfl rfl ?_
          refine TrL.op (ok_call (fun hp => ct_rIsMap _ _ _ va vb hfl hE0) (.s rfl (fun _ => rfl) rfl <| .s rfl (fun _ => rfl) rfl <| .a rfl (fun _ => rfl) <| .nil)) rfl rfl ?_
          refine TrL.op (ok_not rfl (fun _ => rfl)) rfl rfl ?_
          refine TrL.op (ok_move rfl (fun _ => rfl)) rfl rfl ?_
          refine TrL.gd rfl rfl rfl (ok_ldBS rfl (fun _ => rfl)) rfl rfl ?_
          refine TrL.gd rfl rfl rfl (ok_move rfl (fun _ => rfl)) rfl rfl ?_
          refine TrL.gd rfl rfl rfl (ok_call (fun hp => ct_rOnto _ _ vb) (.s rfl id rfl <| .a rfl id <| .nil)) rfl rfl ?_
          refine TrL.gd rfl rfl rfl (ok_not rfl id) rfl rfl ?_
          refine TrL.op (ok_or rfl (fun _ => rfl) rfl (fun hp h => gdF2 ((fun _ => rfl) hp) h)) rfl rfl ?_
          refine TrL.fin ?_
          refine End.nxt ?_
          refine Tr.cnd rfl ?_ ?_
          · intro h14
            simp at h14
            refine Tr.seq ?_
            refine Tr.rg ?_
            refine TrL.op (ok_assign rfl (fun _ => rfl)) rfl rfl ?_
            refine TrL.fin ?_
            refine End.nxt ?_
            refine Tr.ret ?_
            refine Rts.thn ?_
            exact Rts.res1 (fn := Try.f45) rfl (.i rfl (cmE_p h2 h5 hs hE0 (by cases hA : isMapB a b f; exact .inl rfl; exact .inr (by simpa [hA] using h14))).symm <| .nil)
          · intro h14
            simp at h14
            refine Tr.skip ?_
            refine End.nxt ?_
            refine Tr.seq ?_
            refine Tr.rg ?_
            refine TrL.op (ok_assign rfl (fun _ => rfl)) rfl rfl ?_
            refine TrL.fin ?_
            refine End.nxt ?_
            refine Tr.ret ?_
            exact Rts.res1 (fn := Try.f45) rfl (.i rfl (cmE_0 h2 h5 hs hE0 h14.1 h14.2).symm <| .nil)

set_option maxRecDepth 100000 in
set_option maxHeartbeats 1000000 in
theorem ct_oCheckMap (a b : Ori) (f : List Int) (same : Bool) : Ct Try.prog 92 [kRd eO a, kRd eO b, kRd (eL eI) f, kB same] (kI (cmE a b f same)) := by
  refine Ct.mk Try.func92 rfl Try.ntmps92 rfl (fun w J => ?_)
  refine Tr.fact (s := 2) rfl (fun _ _ h => lenB h) (fun hb => ?_)
  refine Tr.seq ?_
  refine Tr.rg ?_
  refine TrL.new (ok_box 4 rfl (fun _ => rfl) rfl) rfl rfl rfl rfl ?_
  refine TrL.new (ok_box 5 rfl (fun _ => rfl) rfl) rfl rfl rfl rfl ?_
  refine TrL.op (ok_assign rfl (fun _ => rfl)) rfl rfl ?_
  refine TrL.fin ?_
  refine End.nxt ?_
  refine Tr.seq ?_
  refine Tr.seq ?_
  refine Tr.rg ?_
  refine TrL.op (ok_ldBS rfl (fun _ => rfl)) rfl rfl ?_
  refine TrL.op (ok_ldBS rfl (fun _ => rfl)) rfl rfl ?_
  refine TrL.op (ok_buildL [(0, 2), (2, 2)] rfl (fun hp => .cons rfl rfl rfl <| .cons rfl rfl rfl <| .nil)) rfl rfl ?_
  refine TrL.op (ok_move rfl (fun _ => rfl)) rfl rfl ?_
  refine TrL.fin ?_
  refine End.nxt ?_
  refine Tr.for1 (σ := Nat) [⟨2, true, _, _⟩, ⟨3, true, _, _⟩, ⟨4, true, _, _⟩, ⟨5, true, _, _⟩, ⟨19, true, _, _⟩] [⟨4, _, _⟩, ⟨5, _, _⟩] (fun k => [⟨20, true, [], kI (k : Int)⟩]) (fun k => []) (fun k => k ≤ 2 ∧ (0 < k → chkO a = 0) ∧ (1 < k → chkO b = 0)) (fun k => chkO a = 0 ∧ chkO b = 0) (fun k => 2 - k) (0) ⟨by omega, fun h => absurd h (by omega), fun h => absurd h (by omega)⟩ (Ent.mk (.i rfl (by first | rfl | omega | (simp; done) | (simp; omega) | assumption) <| .k rfl rfl <| .k rfl rfl <| .k rfl rfl <| .k rfl rfl <| .k rfl rfl <| .nil) (.k rfl <| .k rfl <| .nil) rfl) ?_ ?_
  · rintro k ⟨hk, hp, hq⟩
    refine Tr.norm (S' := [⟨20, true, _, _⟩, ⟨2, true, _, _⟩, ⟨3, true, _, _⟩, ⟨4, true, _, _⟩, ⟨5, true, _, _⟩, ⟨19, true, _, _⟩]) (M' := [⟨4, _, _⟩, ⟨5, _, _⟩]) rfl rfl ?_
    refine Tr.seq ?_
    refine Tr.rg ?_
    refine TrL.op (ok_lss rfl (fun _ => rfl) rfl (fun _ => rfl)) rfl rfl ?_
    refine TrL.fin ?_
    refine End.nxt ?_
    refine Tr.seq ?_
    refine Tr.cnd rfl ?_ ?_
    · intro h2
      replace h2 := of_decide_eq_true h2
      refine Tr.skip ?_
      refine End.nxt ?_
      refine Tr.seq ?_
      refine Tr.blk ?_
      refine Tr.seq ?_
      refine Tr.rg ?_
      refine TrL.op (ok_idxAA eO rfl (fun _ => rfl) rfl (fun _ => rfl) rfl rfl rfl (fun _ => ⟨by omega, by simp; omega⟩)) rfl rfl ?_
      refine TrL.new (ok_alloc 10) rfl rfl rfl rfl ?_
      refine TrL.stB rfl rfl rfl rfl ?_
      refine TrL.fin ?_
      refine End.nxt ?_
      refine Tr.seq ?_
      refine Tr.rg ?_
      refine TrL.op (ok_ldBS rfl (fun _ => rfl)) rfl rfl ?_
      refine TrL.op (ok_call (fun hp => ct_oCheck _) (.s rfl (fun _ => rfl) rfl <| .nil)) rfl rfl ?_
      refine TrL.op (ok_assign rfl (fun _ => rfl)) rfl rfl ?_
      refine TrL.fin ?_
      refine End.nxt ?_
      refine Tr.seq ?_
      refine Tr.rg ?_
      refine TrL.op (ok_move rfl (fun _ => rfl)) rfl rfl ?_
      refine TrL.op (ok_neq rfl (fun _ => rfl) rfl (fun _ => rfl)) rfl rfl ?_
      refine TrL.fin ?_
      refine End.nxt ?_
      refine Tr.cnd rfl ?_ ?_
      · intro h5
        replace h5 := of_decide_eq_true h5
        refine Tr.seq ?_
        refine Tr.rg ?_
        refine TrL.op (ok_move rfl (fun _ => rfl)) rfl rfl ?_
        refine TrL.op (ok_assign rfl (fun _ => rfl)) rfl rfl ?_
        refine TrL.fin ?_
        refine End.nxt ?_
        refine Tr.ret ?_
        refine Rts.out ?_
        refine Rts.thn ?_
        refine Rts.thn ?_
        refine Rts.out ?_
        refine Rts.thn ?_
        refine Rts.thn ?_
        exact Rts.res1 (fn := Try.f92) rfl (.i rfl (cm2 (by omega) hp h5) <| .nil)
      · intro h5
        replace h5 := Classical.not_not.1 (of_decide_eq_false h5)
        refine Tr.skip ?_
        refine End.blk ?_
        refine End.nxt ?_
        refine Tr.rg ?_
        refine TrL.op (ok_add rfl (fun _ => rfl) rfl (fun _ => rfl) (fun _ => by omega)) rfl rfl ?_
        refine TrL.op (ok_move rfl (fun _ => rfl)) rfl rfl ?_
        refine TrL.fin ?_
        exact End.lp (k + 1) ⟨by omega, fun _ => by (rcases k with _ | k; exact h5; exact hp (by omega)), fun _ => by (rcases k with _ | _ | k; omega; exact h5; exact hq (by omega))⟩ (by omega) (Ent.mk (.i rfl (by first | rfl | omega | (simp; done) | (simp; omega) | assumption) <| .k rfl rfl <| .k rfl rfl <| .k rfl rfl <| .k rfl rfl <| .k rfl rfl <| .nil) (.k rfl <| .k rfl <| .nil) rfl)
    · intro h2
      replace h2 := Int.not_lt.1 (of_decide_eq_false h2)
      refine Tr.exit ?_
      refine Exs.thn ?_
      refine Exs.thn ?_
      refine Exs.here ?_
      exact End.cut (k) ⟨hp (by omega), hq (by omega)⟩ (Ent.mk (.i rfl (by first | rfl | omega | (simp; done) | (simp; omega) | assumption) <| .k rfl rfl <| .k rfl rfl <| .k rfl rfl <| .k rfl rfl <| .k rfl rfl <| .nil) (.k rfl <| .k rfl <| .nil) rfl)
  · rintro k ⟨ha, hbb⟩
    refine End.norm (S' := [⟨20, true, _, _⟩, ⟨2, true, _, _⟩, ⟨3, true, _, _⟩, ⟨4, true, _, _⟩, ⟨5, true, _, _⟩, ⟨19, true, _, _⟩]) (M' := [⟨4, _, _⟩, ⟨5, _, _⟩]) rfl rfl ?_
    have va : Valid a := valid_of ha
    have vb : Valid b := valid_of hbb
    have hvl := va.le
    have hvl2 := vb.le
    have hva := va.len
    have hvb := vb.len
    refine End.nxt ?_
    refine Tr.seq ?_
    refine Tr.seq ?_
    refine Tr.rg ?_
    refine TrL.op (ok_move rfl (fun _ => rfl)) rfl rfl ?_
    refine TrL.op (ok_lenJ rfl (fun _ => rfl)) rfl rfl ?_
    refine TrL.op (ok_fldO rfl (fun _ => rfl)) rfl rfl ?_
    refine TrL.op (ok_ldB rfl (fun _ => rfl) rfl) rfl rfl ?_
    refine TrL.op (ok_lenJ rfl (fun _ => rfl)) rfl rfl ?_
    refine TrL.op (ok_neq rfl (fun _ => rfl) rfl (fun _ => rfl)) rfl rfl ?_
    refine TrL.op (ok_move rfl (fun _ => rfl)) rfl rfl ?_
    refine TrL.gd rfl rfl rfl (ok_move rfl (fun _ => rfl)) rfl rfl ?_
    refine TrL.gd rfl rfl rfl (ok_move rfl id) rfl rfl ?_
    refine TrL.gd rfl rfl rfl (ok_move rfl (fun _ => rfl)) rfl rfl ?_
    refine TrL.gd rfl rfl rfl (ok_lenJ rfl id) rfl rfl ?_
    refine TrL.gd rfl rfl rfl (ok_fldO rfl (fun _ => rfl)) rfl rfl ?_
    refine TrL.gd rfl rfl rfl (ok_ldB rfl id rfl) rfl rfl ?_
    refine TrL.gd rfl rfl rfl (ok_lenJ rfl id) rfl rfl ?_
    refine TrL.gd rfl rfl rfl (ok_neq rfl id rfl id) rfl rfl ?_
    refine TrL.gd rfl rfl rfl (ok_and rfl id rfl (fun hp h => gdT2 (id hp) h)) rfl rfl ?_
    refine TrL.op (ok_or rfl (fun _ => rfl) rfl (fun hp h => gdF2 ((fun _ => rfl) hp) h)) rfl rfl ?_
    refine TrL.fin ?_
    refine End.nxt ?_
    refine Tr.cnd rfl ?_ ?_
    · intro h8
      rw [shp2] at h8
      have hs := of_decide_eq_true h8
      refine Tr.seq ?_
      refine Tr.rg ?_
      refine TrL.op (ok_assign rfl (fun _ => rfl)) rfl rfl ?_
      refine TrL.fin ?_
      refine End.nxt ?_
      refine Tr.ret ?_
      refine Rts.thn ?_
      exact Rts.res1 (fn := Try.f92) rfl (.i rfl (cmE_s ha hbb hs).symm <| .nil)
    · intro h8
      rw [shp2] at h8
      have hs := of_decide_eq_false h8
      have hfl : f.length = a.1.length := Classical.byContradiction fun hh => hs (.inl hh)
      refine Tr.skip ?_
      refine End.nxt ?_
      refine Tr.seq ?_
      refine Tr.rg ?_
      refine TrL.op (ok_fldO rfl (fun _ => rfl)) rfl rfl ?_
      refine TrL.op (ok_ldB rfl (fun _ => rfl) rfl) rfl rfl ?_
      refine TrL.op (ok_lenJ rfl (fun _ => rfl)) rfl rfl ?_
      refine TrL.new (ok_makeN eBool 49 rfl (fun _ => rfl) rfl (fun _ => rfl) rfl rfl rfl (fun _ => by omega)) rfl rfl rfl rfl ?_
      refine TrL.op (ok_assign rfl (fun _ => rfl)) rfl rfl ?_
      refine TrL.fin ?_
      refine End.nxt ?_
      refine Tr.seq ?_
      refine Tr.seq ?_
      refine Tr.rg ?_
      refine TrL.op (ok_move rfl (fun _ => rfl)) rfl rfl ?_
      refine TrL.op (ok_lenJ rfl (fun _ => rfl)) rfl rfl ?_
      refine TrL.op (ok_move rfl (fun _ => rfl)) rfl rfl ?_
      refine TrL.fin ?_
      refine End.nxt ?_
      refine Tr.for1 (σ := Nat) [⟨2, true, _, _⟩, ⟨4, true, _, _⟩, ⟨5, true, _, _⟩, ⟨12, true, _, _⟩, ⟨50, true, _, _⟩, ⟨51, true, _, _⟩] [⟨4, _, _⟩, ⟨5, _, _⟩] (fun k => [⟨52, true, [], kI (k : Int)⟩]) (fun k => [⟨49, [], cArr false 4 eBool (seenB b.1.length (f.take k)) b.1.length⟩]) (fun k => k ≤ f.length ∧ ∀ i, i < k → 0 ≤ nth f i ∧ nth f i < b.1.length) (fun k => inR f b.1.length ∧ k = f.length) (fun k => f.length - k) (0) ⟨Nat.zero_le _, fun i h => absurd h (by omega)⟩ (Ent.mk (.i rfl (by first | rfl | omega | (simp; done) | (simp; omega) | assumption) <| .k rfl rfl <| .k rfl rfl <| .k rfl rfl <| .k rfl rfl <| .k rfl rfl <| .k rfl rfl <| .nil) (.a seenB_nil (by first | rfl | omega | (simp; done) | (simp; omega) | assumption) <| .k rfl <| .k rfl <| .nil) rfl) ?_ ?_
      · rintro k ⟨hk, hR⟩
        refine Tr.norm (S' := [⟨52, true, _, _⟩, ⟨2, true, _, _⟩, ⟨4, true, _, _⟩, ⟨5, true, _, _⟩, ⟨12, true, _, _⟩, ⟨50, true, _, _⟩, ⟨51, true, _, _⟩]) (M' := [⟨49, _, _⟩, ⟨4, _, _⟩, ⟨5, _, _⟩]) rfl rfl ?_
        refine Tr.seq ?_
        refine Tr.rg ?_
        refine TrL.op (ok_lss rfl (fun _ => rfl) rfl (fun _ => rfl)) rfl rfl ?_
        refine TrL.fin ?_
        refine End.nxt ?_
        refine Tr.seq ?_
        refine Tr.cnd rfl ?_ ?_
        · intro h12
          replace h12 := of_decide_eq_true h12
          refine Tr.skip ?_
          refine End.nxt ?_
          refine Tr.seq ?_
          refine Tr.blk ?_
          refine Tr.seq ?_
          refine Tr.rg ?_
          first | refine TrL.op (ok_idxN rfl (fun _ => rfl) rfl (fun _ => rfl) rfl (fun _ => by omega)) rfl rfl ?_ | refine TrL.op (ok_idxP rfl (fun _ => rfl) rfl (fun _ => rfl) rfl (fun _ => by omega)) rfl rfl ?_
          refine TrL.op (ok_ldP rfl (fun _ => rfl) rfl) rfl rfl ?_
          refine TrL.op (ok_assign rfl (fun _ => rfl)) rfl rfl ?_
          refine TrL.fin ?_
          refine End.nxt ?_
          refine Tr.seq ?_
          refine Tr.seq ?_
          refine Tr.rg ?_
          refine TrL.op (ok_move rfl (fun _ => rfl)) rfl rfl ?_
          refine TrL.op (ok_lss rfl (fun _ => rfl) rfl (fun _ => rfl)) rfl rfl ?_
          refine TrL.op (ok_move rfl (fun _ => rfl)) rfl rfl ?_
          refine TrL.gd rfl rfl rfl (ok_move rfl (fun _ => rfl)) rfl rfl ?_
          refine TrL.gd rfl rfl rfl (ok_move rfl (fun _ => rfl)) rfl rfl ?_
          refine TrL.gd rfl rfl rfl (ok_lenO rfl id) rfl rfl ?_
          refine TrL.gd rfl rfl rfl (ok_geq rfl id rfl id) rfl rfl ?_
          refine TrL.op (ok_or rfl (fun _ => rfl) rfl (fun hp h => gdF2 ((fun _ => rfl) hp) h)) rfl rfl ?_
          refine TrL.fin ?_
          refine End.nxt ?_
          refine Tr.cnd rfl ?_ ?_
          · intro h14
            simp at h14
            refine Tr.seq ?_
            refine Tr.rg ?_
            refine TrL.op (ok_assign rfl (fun _ => rfl)) rfl rfl ?_
            refine TrL.fin ?_
            refine End.nxt ?_
            refine Tr.ret ?_
            refine Rts.thn ?_
            refine Rts.out ?_
            refine Rts.thn ?_
            refine Rts.thn ?_
            refine Rts.out ?_
            refine Rts.thn ?_
            refine Rts.thn ?_
            exact Rts.res1 (fn := Try.f92) rfl (.i rfl (cmE_r ha hbb hs (k := k) (by omega) (by omega)).symm <| .nil)
          · intro h14
            simp at h14
            refine Tr.skip ?_
            refine End.nxt ?_
            refine Tr.rg ?_
            refine TrL.op (ok_move rfl (fun _ => rfl)) rfl rfl ?_
            refine TrL.op (ok_move rfl (fun _ => rfl)) rfl rfl ?_
            first | refine TrL.op (ok_idxEN rfl (fun _ => rfl) rfl (fun _ => rfl) (fun _ => by omega)) rfl rfl ?_ | refine TrL.op (ok_idxE rfl (fun _ => rfl) rfl (fun _ => rfl) (fun _ => by omega)) rfl rfl ?_
            refine TrL.stE rfl rfl rfl rfl rfl ?_
            refine TrL.fin ?_
            refine End.blk ?_
            refine End.nxt ?_
            refine Tr.rg ?_
            refine TrL.op (ok_add rfl (fun _ => rfl) rfl (fun _ => rfl) (fun _ => by omega)) rfl rfl ?_
            refine TrL.op (ok_move rfl (fun _ => rfl)) rfl rfl ?_
            refine TrL.fin ?_
            exact End.lp (k + 1) ⟨by omega, all_succ hR (by omega)⟩ (by omega) (Ent.mk (.i rfl (by first | rfl | omega | (simp; done) | (simp; omega) | assumption) <| .k rfl rfl <| .k rfl rfl <| .k rfl rfl <| .k rfl rfl <| .k rfl rfl <| .k rfl rfl <| .nil) (.a (by rw [take_succ_nth (by omega), seenB_set (by omega)]) (by first | rfl | omega | (simp; done) | (simp; omega) | assumption) <| .k rfl <| .k rfl <| .nil) rfl)
        · intro h12
          replace h12 := Int.not_lt.1 (of_decide_eq_false h12)
          refine Tr.exit ?_
          refine Exs.thn ?_
          refine Exs.thn ?_
          refine Exs.here ?_
          exact End.cut (k) ⟨fun i hi => hR i (by omega), by omega⟩ (Ent.mk (.i rfl (by first | rfl | omega | (simp; done) | (simp; omega) | assumption) <| .k rfl rfl <| .k rfl rfl <| .k rfl rfl <| .k rfl rfl <| .k rfl rfl <| .k rfl rfl <| .nil) (.a (by first | rfl | omega | (simp; done) | (simp; omega) | assumption) (by first | rfl | omega | (simp; done) | (simp; omega) | assumption) <| .k rfl <| .k rfl <| .nil) rfl)
      · rintro k ⟨hr, hkf⟩
        refine End.norm (S' := [⟨52, true, _, _⟩, ⟨2, true, _, _⟩, ⟨4, true, _, _⟩, ⟨5, true, _, _⟩, ⟨12, true, _, _⟩, ⟨50, true, _, _⟩, ⟨51, true, _, _⟩]) (M' := [⟨49, _, _⟩, ⟨4, _, _⟩, ⟨5, _, _⟩]) rfl rfl ?_
        subst hkf
        rw [List.take_length]
        refine End.nxt ?_
        refine Tr.seq ?_
        refine Tr.seq ?_
        refine Tr.rg ?_
        refine TrL.op (ok_move rfl (fun _ => rfl)) rfl rfl ?_
        refine TrL.op (ok_lenJ rfl (fun _ => rfl)) rfl rfl ?_
        refine TrL.op (ok_move rfl (fun _ => rfl)) rfl rfl ?_
        refine TrL.fin ?_
        refine End.nxt ?_
        refine Tr.for1 (σ := Nat) [⟨2, true, _, _⟩, ⟨4, true, _, _⟩, ⟨5, true, _, _⟩, ⟨12, true, _, _⟩, ⟨68, true, _, _⟩, ⟨69, true, _, _⟩] [⟨4, _, _⟩, ⟨5, _, _⟩, ⟨49, _, _⟩] (fun k => [⟨70, true, [], kI (k : Int)⟩]) (fun k => []) (fun k => k ≤ f.length ∧ ∀ i, i < k → (ap f (nth a.1 i) = ap b.1 (nth f i) ∧ ap f (nth a.2 i) = ap b.2 (nth f i))) (fun k => ∀ i, i < f.length → (ap f (nth a.1 i) = ap b.1 (nth f i) ∧ ap f (nth a.2 i) = ap b.2 (nth f i))) (fun k => f.length - k) (0) ⟨Nat.zero_le _, fun i h => absurd h (by omega)⟩ (Ent.mk (.i rfl (by first | rfl | omega | (simp; done) | (simp; omega) | assumption) <| .k rfl rfl <| .k rfl rfl <| .k rfl rfl <| .k rfl rfl <| .k rfl rfl <| .k rfl rfl <| .nil) (.k rfl <| .k rfl <| .k rfl <| .nil) rfl) ?_ ?_
        · rintro k ⟨hk2, hR2⟩
          refine Tr.norm (S' := [⟨70, true, _, _⟩, ⟨2, true, _, _⟩, ⟨4, true, _, _⟩, ⟨5, true, _, _⟩, ⟨12, true, _, _⟩, ⟨68, true, _, _⟩, ⟨69, true, _, _⟩]) (M' := [⟨4, _, _⟩, ⟨5, _, _⟩, ⟨49, _, _⟩]) rfl rfl ?_
          refine Tr.seq ?_
          refine Tr.rg ?_
          refine TrL.op (ok_lss rfl (fun _ => rfl) rfl (fun _ => rfl)) rfl rfl ?_
          refine TrL.fin ?_
          refine End.nxt ?_
          refine Tr.seq ?_
          refine Tr.cnd rfl ?_ ?_
          · intro h19
            replace h19 := of_decide_eq_true h19
            refine Tr.skip ?_
            refine End.nxt ?_
            refine Tr.seq ?_
            refine Tr.blk ?_
            refine Tr.seq ?_
            refine Tr.rg ?_
            refine TrL.op (ok_move rfl (fun _ => rfl)) rfl rfl ?_
            first | refine TrL.op (ok_idxN rfl (fun _ => rfl) rfl (fun _ => rfl) rfl (fun _ => by omega)) rfl rfl ?_ | refine TrL.op (ok_idxP rfl (fun _ => rfl) rfl (fun _ => rfl) rfl (fun _ => by omega)) rfl rfl ?_
            refine TrL.op (ok_ldP rfl (fun _ => rfl) rfl) rfl rfl ?_
            refine TrL.op (ok_assign rfl (fun _ => rfl)) rfl rfl ?_
            refine TrL.op (ok_assign rfl (fun _ => rfl)) rfl rfl ?_
            refine TrL.fin ?_
            refine End.nxt ?_
            refine Tr.seq ?_
            refine Tr.draw 28 mixed (by kernel_rfl) ?_
            have a1 := va.ri (i := k) (by omega)
            have a2 := va.ui (i := k) (by omega)
            have a3 := hr k (by omega)
            have a4 := hr (nth a.1 k).toNat (by omega)
            have a5 := hr (nth a.2 k).toNat (by omega)
            refine RunD.op (ok_move rfl (fun _ => rfl)) rfl rfl ?_
            refine RunD.op (ok_fldO rfl (fun _ => rfl)) rfl rfl ?_
            refine RunD.op (ok_ldB rfl (fun _ => rfl) rfl) rfl rfl ?_
            refine RunD.op (ok_move rfl (fun _ => rfl)) rfl rfl ?_
            first | refine RunD.op (ok_idxN rfl (fun _ => rfl) rfl (fun _ => rfl) rfl (fun _ => by omega)) rfl rfl ?_ | refine RunD.op (ok_idxP rfl (fun _ => rfl) rfl (fun _ => rfl) rfl (fun _ => by omega)) rfl rfl ?_
            refine RunD.op (ok_ldP rfl (fun _ => rfl) rfl) rfl rfl ?_
            first | refine RunD.op (ok_idxN rfl (fun _ => rfl) rfl (fun _ => rfl) rfl (fun _ => by omega)) rfl rfl ?_ | refine RunD.op (ok_idxP rfl (fun _ => rfl) rfl (fun _ => rfl) rfl (fun _ => by omega)) rfl rfl ?_
            refine RunD.op (ok_ldP rfl (fun _ => rfl) rfl) rfl rfl ?_
            refine RunD.op (ok_fldO rfl (fun _ => rfl)) rfl rfl ?_
            refine RunD.op (ok_ldB rfl (fun _ => rfl) rfl) rfl rfl ?_
            refine RunD.op (ok_move rfl (fun _ => rfl)) rfl rfl ?_
            first | refine RunD.op (ok_idxN rfl (fun _ => rfl) rfl (fun _ => rfl) rfl (fun _ => by omega)) rfl rfl ?_ | refine RunD.op (ok_idxP rfl (fun _ => rfl) rfl (fun _ => rfl) rfl (fun _ => by omega)) rfl rfl ?_
            refine RunD.op (ok_ldP rfl (fun _ => rfl) rfl) rfl rfl ?_
            refine RunD.op (ok_neq rfl (fun _ => rfl) rfl (fun _ => rfl)) rfl rfl ?_
            refine RunD.op (ok_move rfl (fun _ => rfl)) rfl rfl ?_
            refine RunD.gd rfl rfl rfl (ok_move rfl (fun _ => rfl)) rfl rfl ?_
            refine RunD.gd rfl rfl rfl (ok_fldO rfl (fun _ => rfl)) rfl rfl ?_
            refine RunD.gd rfl rfl rfl (ok_ldB rfl id rfl) rfl rfl ?_
            refine RunD.gd rfl rfl rfl (ok_move rfl (fun _ => rfl)) rfl rfl ?_
            first | refine RunD.gd rfl rfl rfl (ok_idxN rfl id rfl id rfl (fun hp => by simp at hp; omega)) rfl rfl ?_ | refine RunD.gd rfl rfl rfl (ok_idxP rfl id rfl id rfl (fun hp => by simp at hp; omega)) rfl rfl ?_
            refine RunD.gd rfl rfl rfl (ok_ldP rfl id rfl) rfl rfl ?_
            first | refine RunD.gd rfl rfl rfl (ok_idxN rfl id rfl id rfl (fun hp => by simp at hp; omega)) rfl rfl ?_ | refine RunD.gd rfl rfl rfl (ok_idxP rfl id rfl id rfl (fun hp => by simp at hp; omega)) rfl rfl ?_
            refine RunD.gd rfl rfl rfl (ok_ldP rfl id rfl) rfl rfl ?_
            refine RunD.gd rfl rfl rfl (ok_fldO rfl (fun _ => rfl)) rfl rfl ?_
            refine RunD.gd rfl rfl rfl (ok_ldB rfl id rfl) rfl rfl ?_
            refine RunD.gd rfl rfl rfl (ok_move rfl (fun _ => rfl)) rfl rfl ?_
            first | refine RunD.gd rfl rfl rfl (ok_idxN rfl id rfl id rfl (fun hp => by simp at hp; omega)) rfl rfl ?_ | refine RunD.gd rfl rfl rfl (ok_idxP rfl id rfl id rfl (fun hp => by simp at hp; omega)) rfl rfl ?_
            refine RunD.gd rfl rfl rfl (ok_ldP rfl id rfl) rfl rfl ?_
            refine RunD.z ?_
            refine TrL.gd rfl rfl rfl (ok_neq rfl id rfl id) rfl rfl ?_
            refine TrL.op (ok_or rfl (fun _ => rfl) rfl (fun hp h => gdF2 ((fun _ => rfl) hp) h)) rfl rfl ?_
            refine TrL.fin ?_
            refine End.nxt ?_
            refine Tr.cnd rfl ?_ ?_
            · intro h21
              simp at h21
              refine Tr.seq ?_
              refine Tr.rg ?_
              refine TrL.op (ok_assign rfl (fun _ => rfl)) rfl rfl ?_
              refine TrL.fin ?_
              refine End.nxt ?_
              refine Tr.ret ?_
              refine Rts.out ?_
              refine Rts.thn ?_
              refine Rts.thn ?_
              refine Rts.out ?_
              refine Rts.thn ?_
              refine Rts.thn ?_
              exact Rts.res1 (fn := Try.f92) rfl (.i rfl (cmE_p ha hbb hs hr (.inl (isMapB_not (k := k) (by omega) (by unfold ap; intro hh; rcases h21 with h | h; exact h hh.1; exact h hh.2)))).symm <| .nil)
            · intro h21
              simp at h21
              refine Tr.skip ?_
              refine End.blk ?_
              refine End.nxt ?_
              refine Tr.rg ?_
              refine TrL.op (ok_add rfl (fun _ => rfl) rfl (fun _ => rfl) (fun _ => by omega)) rfl rfl ?_
              refine TrL.op (ok_move rfl (fun _ => rfl)) rfl rfl ?_
              refine TrL.fin ?_
              exact End.lp (k + 1) ⟨by omega, all_succ hR2 (by unfold ap; exact h21)⟩ (by omega) (Ent.mk (.i rfl (by first | rfl | omega | (simp; done) | (simp; omega) | assumption) <| .k rfl rfl <| .k rfl rfl <| .k rfl rfl <| .k rfl rfl <| .k rfl rfl <| .k rfl rfl <| .nil) (.k rfl <| .k rfl <| .k rfl <| .nil) rfl)
          · intro h19
            replace h19 := Int.not_lt.1 (of_decide_eq_false h19)
            refine Tr.exit ?_
            refine Exs.thn ?_
            refine Exs.thn ?_
            refine Exs.here ?_
            exact End.cut (k) (fun i hi => hR2 i (by omega)) (Ent.mk (.i rfl (by first | rfl | omega | (simp; done) | (simp; omega) | assumption) <| .k rfl rfl <| .k rfl rfl <| .k rfl rfl <| .k rfl rfl <| .k rfl rfl <| .k rfl rfl <| .nil) (.k rfl <| .k rfl <| .k rfl <| .nil) rfl)
        · intro k hE2
          refine End.norm (S' := [⟨70, true, _, _⟩, ⟨2, true, _, _⟩, ⟨4, true, _, _⟩, ⟨5, true, _, _⟩, ⟨12, true, _, _⟩, ⟨68, true, _, _⟩, ⟨69, true, _, _⟩]) (M' := [⟨4, _, _⟩, ⟨5, _, _⟩, ⟨49, _, _⟩]) rfl rfl ?_
          refine End.nxt ?_
          refine Tr.seq ?_
          refine Tr.seq ?_
          refine Tr.rg ?_
          refine TrL.op (ok_move rfl (fun _ => rfl)) rfl rfl ?_
          refine TrL.frz 49 [12, 106] ⟨rfl, rfl, trivial⟩ (by simp only [lenMax]; omega) rfl ?_
          refine TrL.norm (S' := [⟨_, _, _, _⟩, ⟨_, _, _, _⟩, ⟨_, _, _, _⟩, ⟨_, _, _, _⟩, ⟨_, _, _, _⟩, ⟨_, _, _, _⟩, ⟨_, _, _, _⟩, ⟨_, _, _, _⟩, ⟨_, _, _, _⟩, ⟨_, _, _, _⟩]) rfl rfl ?_
          refine TrL.op (ok_call (fun hp => ct_ContainsB _ _) (.a rfl (fun _ => rfl) <| .a rfl (fun _ => rfl) <| .nil)) rfl rfl ?_
          refine TrL.fin ?_
          refine End.nxt ?_
          refine Tr.cnd rfl ?_ ?_
          · intro h24
            rw [seenB_onto] at h24
            refine Tr.seq ?_
            refine Tr.rg ?_
            refine TrL.op (ok_assign rfl (fun _ => rfl)) rfl rfl ?_
            refine TrL.fin ?_
            refine End.nxt ?_
            refine Tr.ret ?_
            refine Rts.thn ?_
            exact Rts.res1 (fn := Try.f92) rfl (.i rfl (cmE_p ha hbb hs hr (.inr (by simpa using h24))).symm <| .nil)
          · intro h24
            rw [seenB_onto] at h24
            refine Tr.skip ?_
            refine End.nxt ?_
            refine Tr.seq ?_
            refine Tr.rg ?_
            refine TrL.op (ok_assign rfl (fun _ => rfl)) rfl rfl ?_
            refine TrL.fin ?_
            refine End.nxt ?_
            refine Tr.ret ?_
            exact Rts.res1 (fn := Try.f92) rfl (.i rfl (cmE_0 ha hbb hs hr (isMapB_all (fun x hx => hE2 x (by omega))) (by simpa using h24)).symm <| .nil)

set_option maxRecDepth 100000 in
theorem ct_oCheckIsomorphism (a b : Ori) (f : List Int) : Ct Try.prog 44 [kRd eO a, kRd eO b, kRd (eL eI) f] (kI (cmE a b f true)) := by
  refine Ct.mk Try.func44 rfl Try.ntmps44 rfl (fun w J => ?_)
  refine Tr.seq ?_
  refine Tr.rg ?_
  refine TrL.new (ok_box 3 rfl (fun _ => rfl) rfl) rfl rfl rfl rfl ?_
  refine TrL.new (ok_box 4 rfl (fun _ => rfl) rfl) rfl rfl rfl rfl ?_
  refine TrL.op (ok_assign rfl (fun _ => rfl)) rfl rfl ?_
  refine TrL.fin ?_
  refine End.nxt ?_
  refine Tr.seq ?_
  refine Tr.rg ?_
  refine TrL.op (ok_ldBS rfl (fun _ => rfl)) rfl rfl ?_
  refine TrL.op (ok_ldBS rfl (fun _ => rfl)) rfl rfl ?_
  refine TrL.op (ok_move rfl (fun _ => rfl)) rfl rfl ?_
  refine TrL.op (ok_call (fun hp => ct_oCheckMap _ _ _ _) (.s rfl (fun _ => rfl) rfl <| .s rfl (fun _ => rfl) rfl <| .a rfl (fun _ => rfl) <| .a rfl (fun _ => rfl) <| .nil)) rfl rfl ?_
  refine TrL.op (ok_assign rfl (fun _ => rfl)) rfl rfl ?_
  refine TrL.fin ?_
  refine End.nxt ?_
  refine Tr.ret ?_
  exact Rts.res1 (fn := Try.f44) rfl (.i rfl (by first | rfl | omega | (simp; done) | (simp; omega) | assumption) <| .nil)

set_option maxRecDepth 100000 in
theorem ct_oCheckCovering (a b : Ori) (f : List Int) : Ct Try.prog 46 [kRd eO a, kRd eO b, kRd (eL eI) f] (kI (cmE a b f false)) := by
  refine Ct.mk Try.func46 rfl Try.ntmps46 rfl (fun w J => ?_)
  refine Tr.seq ?_
  refine Tr.rg ?_
  refine TrL.new (ok_box 3 rfl (fun _ => rfl) rfl) rfl rfl rfl rfl ?_
  refine TrL.new (ok_box 4 rfl (fun _ => rfl) rfl) rfl rfl rfl rfl ?_
  refine TrL.op (ok_assign rfl (fun _ => rfl)) rfl rfl ?_
  refine TrL.fin ?_
  refine End.nxt ?_
  refine Tr.seq ?_
  refine Tr.rg ?_
  refine TrL.op (ok_ldBS rfl (fun _ => rfl)) rfl rfl ?_
  refine TrL.op (ok_ldBS rfl (fun _ => rfl)) rfl rfl ?_
  refine TrL.op (ok_move rfl (fun _ => rfl)) rfl rfl ?_
  refine TrL.op (ok_call (fun hp => ct_oCheckMap _ _ _ _) (.s rfl (fun _ => rfl) rfl <| .s rfl (fun _ => rfl) rfl <| .a rfl (fun _ => rfl) <| .a rfl (fun _ => rfl) <| .nil)) rfl rfl ?_
  refine TrL.op (ok_assign rfl (fun _ => rfl)) rfl rfl ?_
  refine TrL.fin ?_
  refine End.nxt ?_
  refine Tr.ret ?_
  exact Rts.res1 (fn := Try.f46) rfl (.i rfl (by first | rfl | omega | (simp; done) | (simp; omega) | assumption) <| .nil)

set_option maxRecDepth 100000 in
theorem ct_OrigamiProofs (a b : Ori) (f : List Int) : Ct Try.prog 8 [kRd eO a, kRd eO b, kRd (eL eI) f] (kB true) := by
  refine Ct.mk Try.func8 rfl Try.ntmps8 rfl (fun w J => ?_)
  refine Tr.seq ?_
  refine Tr.rg ?_
  refine TrL.new (ok_box 3 rfl (fun _ => rfl) rfl) rfl rfl rfl rfl ?_
  refine TrL.new (ok_box 4 rfl (fun _ => rfl) rfl) rfl rfl rfl rfl ?_
  refine TrL.op (ok_assign rfl (fun _ => rfl)) rfl rfl ?_
  refine TrL.fin ?_
  refine End.nxt ?_
  refine Tr.seq ?_
  refine Tr.seq ?_
  refine Tr.rg ?_
  refine TrL.op (ok_call (fun hp => ct_awake) (.nil)) rfl rfl ?_
  refine TrL.op (ok_not rfl (fun _ => rfl)) rfl rfl ?_
  refine TrL.fin ?_
  refine End.nxt ?_
  refine Tr.cnd rfl ?_ ?_
  · intro h1
    simp at h1
  · intro h1
    refine Tr.skip ?_
    refine End.nxt ?_
    refine Tr.seq ?_
    refine Tr.seq ?_
    refine Tr.rg ?_
    refine TrL.op (ok_ldBS rfl (fun _ => rfl)) rfl rfl ?_
    refine TrL.op (ok_call (fun hp => ct_Few _) (.s rfl (fun _ => rfl) rfl <| .nil)) rfl rfl ?_
    refine TrL.op (ok_not rfl (fun _ => rfl)) rfl rfl ?_
    refine TrL.op (ok_move rfl (fun _ => rfl)) rfl rfl ?_
    refine TrL.gd rfl rfl rfl (ok_ldBS rfl (fun _ => rfl)) rfl rfl ?_
    refine TrL.gd rfl rfl rfl (ok_call (fun hp => ct_Few _) (.s rfl id rfl <| .nil)) rfl rfl ?_
    refine TrL.gd rfl rfl rfl (ok_not rfl id) rfl rfl ?_
    refine TrL.op (ok_or rfl (fun _ => rfl) rfl (fun hp h => gdF2 ((fun _ => rfl) hp) h)) rfl rfl ?_
    refine TrL.op (ok_move rfl (fun _ => rfl)) rfl rfl ?_
    refine TrL.gd rfl rfl rfl (ok_move rfl (fun _ => rfl)) rfl rfl ?_
    refine TrL.gd rfl rfl rfl (ok_lenJ rfl id) rfl rfl ?_
    refine TrL.gd rfl rfl rfl (ok_gtr rfl id rfl (fun _ => rfl)) rfl rfl ?_
    refine TrL.op (ok_or rfl (fun _ => rfl) rfl (fun hp h => gdF2 ((fun _ => rfl) hp) h)) rfl rfl ?_
    refine TrL.fin ?_
    refine End.nxt ?_
    refine Tr.cnd rfl ?_ ?_
    · intro h3
      refine Tr.seq ?_
      refine Tr.rg ?_
      refine TrL.op (ok_assign rfl (fun _ => rfl)) rfl rfl ?_
      refine TrL.fin ?_
      refine End.nxt ?_
      refine Tr.ret ?_
      refine Rts.thn ?_
      exact Rts.res1 (fn := Try.f8) rfl (.b rfl (by rfl) <| .nil)
    · intro h3
      refine Tr.skip ?_
      refine End.nxt ?_
      refine Tr.seq ?_
      refine Tr.draw 17 mixed (by kernel_rfl) ?_
      refine RunD.op (ok_ldBS rfl (fun _ => rfl)) rfl rfl ?_
      refine RunD.op (ok_ldBS rfl (fun _ => rfl)) rfl rfl ?_
      refine RunD.op (ok_move rfl (fun _ => rfl)) rfl rfl ?_
      refine RunD.op (ok_call (fun hp => ct_oCheckIsomorphism _ _ _) (.s rfl (fun _ => rfl) rfl <| .s rfl (fun _ => rfl) rfl <| .a rfl (fun _ => rfl) <| .nil)) rfl rfl ?_
      refine RunD.op (ok_ldBS rfl (fun _ => rfl)) rfl rfl ?_
      refine RunD.op (ok_ldBS rfl (fun _ => rfl)) rfl rfl ?_
      refine RunD.op (ok_move rfl (fun _ => rfl)) rfl rfl ?_
      refine RunD.op (ok_call (fun hp => ct_rCheckMap _ _ _ _) (.s rfl (fun _ => rfl) rfl <| .s rfl (fun _ => rfl) rfl <| .a rfl (fun _ => rfl) <| .a rfl (fun _ => rfl) <| .nil)) rfl rfl ?_
      refine RunD.op (ok_eql rfl (fun _ => rfl) rfl (fun _ => rfl)) rfl rfl ?_
      refine RunD.op (ok_move rfl (fun _ => rfl)) rfl rfl ?_
      refine RunD.gd rfl rfl rfl (ok_ldBS rfl (fun _ => rfl)) rfl rfl ?_
      refine RunD.gd rfl rfl rfl (ok_ldBS rfl (fun _ => rfl)) rfl rfl ?_
      refine RunD.gd rfl rfl rfl (ok_move rfl (fun _ => rfl)) rfl rfl ?_
      refine RunD.gd rfl rfl rfl (ok_call (fun hp => ct_oCheckCovering _ _ _) (.s rfl id rfl <| .s rfl id rfl <| .a rfl id <| .nil)) rfl rfl ?_
      refine RunD.gd rfl rfl rfl (ok_ldBS rfl (fun _ => rfl)) rfl rfl ?_
      refine RunD.gd rfl rfl rfl (ok_ldBS rfl (fun _ => rfl)) rfl rfl ?_
      refine RunD.gd rfl rfl rfl (ok_move rfl (fun _ => rfl)) rfl rfl ?_
      refine RunD.z ?_
      refine TrL.gd rfl rfl rfl (ok_call (fun hp => ct_rCheckMap _ _ _ _) (.s rfl id rfl <| .s rfl id rfl <| .a rfl id <| .a rfl (fun _ => rfl) <| .nil)) rfl rfl ?_
      refine TrL.gd rfl rfl rfl (ok_eql rfl id rfl id) rfl rfl ?_
      refine TrL.op (ok_and rfl (fun _ => rfl) rfl (fun hp h => gdT2 ((fun _ => rfl) hp) h)) rfl rfl ?_
      refine TrL.op (ok_assign rfl (fun _ => rfl)) rfl rfl ?_
      refine TrL.fin ?_
      refine End.nxt ?_
      refine Tr.ret ?_
      exact Rts.res1 (fn := Try.f8) rfl (.b rfl (by simp) <| .nil)

end Go.Fl

/- Maps along the search; the reference's maps. Plain Lean, no program in sight. -/
namespace Go.Fl
theorem nth_fst2 {p q r s : Int} {j : Nat} (h : j < 2) : (nth [(p, q, ()), (r, s, ())] j).1 = nth [p, r] j ∧ (nth [(p, q, ()), (r, s, ())] j).2.1 = nth [q, s] j := by
  rcases j with _ | _ | j
  · exact ⟨rfl, rfl⟩
  · exact ⟨rfl, rfl⟩
  · omega
/-- The state of a map at the k-th square of the search, j neighbours looked at; f0: the map when the square was taken up. -/
structure MpSt (a b : Ori) (s : Int) (k j : Nat) (f0 f : List Int) : Prop where
  st : MapSt a b s (srch a [] 0 k j) f
  kp : Kept a b (srch a [] 0 k j) f k j
  same : ap f (nth (bfsTo a [] 0 k) k) = ap f0 (nth (bfsTo a [] 0 k) k)
section
variable {a b : Ori} {s : Int} {k j : Nat} {f0 f : List Int}
theorem srch_nth (hk : k < (bfsTo a [] 0 k).length) : nth (srch a [] 0 k j) k = nth (bfsTo a [] 0 k) k ∧ k < (srch a [] 0 k j).length := by
  obtain ⟨r, hr⟩ := addL_pre (F := []) (ys := (stp a (nth (bfsTo a [] 0 k) k)).take j) (l := bfsTo a [] 0 k)
  unfold srch
  rw [hr]
  exact ⟨nth_app_l hk, by rw [List.length_append]; omega⟩
theorem MpSt.start (h : MapSt a b s (bfsTo a [] 0 k) f0) (hk : Kept a b (bfsTo a [] 0 k) f0 k 0) : MpSt a b s k 0 f0 f0 := ⟨h, hk, rfl⟩
theorem MpSt.old (va : Valid a) (hk : k < (bfsTo a [] 0 k).length) (hj : j < 2) (h : MpSt a b s k j f0 f) (hs : Good a.1.length ([] ++ [(0 : Int)])) (vb : Valid b) (e : ap f (nth (stp a (nth (bfsTo a [] 0 k) k)) j) = nth (stp b (ap f0 (nth (bfsTo a [] 0 k) k))) j) :
    srch a [] 0 k (j + 1) = srch a [] 0 k j ∧ MpSt a b s k (j + 1) f0 f := by
  obtain ⟨hn, hl⟩ := srch_nth (j := j) hk
  have hx := srch_x va hs hk
  have hy := stp_nth_sq va hx hj
  have hz := stp_nth_sq vb (h.st.inn _ (hn ▸ nth_mem hl)) hj
  rw [h.same] at hz
  have hm : nth (stp a (nth (bfsTo a [] 0 k) k)) j ∈ srch a [] 0 k j := Classical.byContradiction fun hh => by
    have := h.st.out _ hy hh
    rw [this] at e; have := hz.1; omega
  have e1 : srch a [] 0 k (j + 1) = srch a [] 0 k j := srch_in hj (by simpa using hm)
  refine ⟨e1, ⟨by rw [e1]; exact h.st, ?_, h.same⟩⟩
  rw [e1]
  exact h.kp.same (by rw [hn]; exact hm) (by rw [hn, h.same]; exact e)
theorem MpSt.new (va : Valid a) (hk : k < (bfsTo a [] 0 k).length) (hj : j < 2) (h : MpSt a b s k j f0 f) (hs : Good a.1.length ([] ++ [(0 : Int)])) (vb : Valid b) (e : ap f (nth (stp a (nth (bfsTo a [] 0 k) k)) j) = -1) :
    srch a [] 0 k (j + 1) = srch a [] 0 k j ++ [nth (stp a (nth (bfsTo a [] 0 k) k)) j] ∧ MpSt a b s k (j + 1) f0 (f.set (nth (stp a (nth (bfsTo a [] 0 k) k)) j).toNat (nth (stp b (ap f0 (nth (bfsTo a [] 0 k) k))) j)) := by
  obtain ⟨hn, hl⟩ := srch_nth (j := j) hk
  have hx := srch_x va hs hk
  have hy := stp_nth_sq va hx hj
  have hxm : nth (bfsTo a [] 0 k) k ∈ srch a [] 0 k j := hn ▸ nth_mem hl
  have hz := stp_nth_sq vb (h.st.inn _ hxm) hj
  have hm : nth (stp a (nth (bfsTo a [] 0 k) k)) j ∉ srch a [] 0 k j := fun hh => by
    have := h.st.inn _ hh
    rw [e] at this; have := this.1; omega
  have e1 : srch a [] 0 k (j + 1) = srch a [] 0 k j ++ [nth (stp a (nth (bfsTo a [] 0 k) k)) j] := srch_new hj (by simpa using hm)
  rw [← h.same]
  refine ⟨e1, ⟨?_, ?_, ?_⟩⟩
  · rw [e1]
    exact h.st.more hy hm hz fun g hg e' => by rw [h.st.hom g hg e' _ hxm]; exact hom_stp hg hx hj
  · rw [e1]
    exact Kept.more h.st hl h.kp hy hm hz (by rw [hn]) (by rw [hn])
  · rw [ap_set hy.1 (by rw [h.st.len]; exact hx), if_neg (fun e' => hm (by rw [e']; exact hxm))]
    exact h.same
theorem MpSt.clash (va : Valid a) (hk : k < (bfsTo a [] 0 k).length) (hj : j < 2) (h : MpSt a b s k j f0 f) (h1 : ap f (nth (stp a (nth (bfsTo a [] 0 k) k)) j) ≠ nth (stp b (ap f0 (nth (bfsTo a [] 0 k) k))) j) (h2 : ap f (nth (stp a (nth (bfsTo a [] 0 k) k)) j) ≠ -1) : homAt a b s = none := by
  obtain ⟨hn, hl⟩ := srch_nth (j := j) hk
  exact map_clash va h.st hl hj (by rw [hn, h.same]; exact h1) (by rw [hn]; exact h2)
theorem MpSt.fin (hk : k < (bfsTo a [] 0 k).length) (h : MpSt a b s k 2 f0 f) : MapSt a b s (bfsTo a [] 0 (k + 1)) f ∧ Kept a b (bfsTo a [] 0 (k + 1)) f (k + 1) 0 := by
  have h1 := h.st; have h2 := h.kp
  rw [srch_two hk] at h1 h2
  exact ⟨h1, h2.next⟩
end
theorem map_end {a b : Ori} (va : Valid a) (ca : Conn a) {s : Int} {k : Nat} {f : List Int} (hs : Good a.1.length ([] ++ [(0 : Int)])) (hk : (bfsTo a [] 0 k).length ≤ k) (h : MapSt a b s (bfsTo a [] 0 k) f) (hp : Kept a b (bfsTo a [] 0 k) f k 0) : homAt a b s = some f := by
  have e := bfs_of va hs hk
  have hp' : Kept a b (bfsTo a [] 0 k) f (bfsTo a [] 0 k).length 0 := fun j q hj hq _ => hp j q hj hq (.inl (by omega))
  rw [e] at h hp'
  exact kept_hom va ca h hp'
theorem mapSt_start {a b : Ori} (v : Valid a) {s : Int} (hs : Sq b.1.length s) : MapSt a b s (bfsTo a [] 0 0) ((List.replicate a.1.length (-1 : Int)).set 0 s) ∧ Kept a b (bfsTo a [] 0 0) ((List.replicate a.1.length (-1 : Int)).set 0 s) 0 0 :=
  ⟨MapSt.start v hs, fun _ _ _ _ h => by omega⟩
noncomputable def covE (a b : Ori) : Int := orE (chk2 a b) (if (mapsL a b).length = 0 then 11 else 0)
noncomputable def covL (a b : Ori) : List Int := if covE a b = 0 then nth (mapsL a b) 0 else []
noncomputable def isoE (a b : Ori) : Int := orE (chk2 a b) (if a.1.length ≠ b.1.length ∨ (mapsL a b).length = 0 then 11 else 0)
noncomputable def isoL (a b : Ori) : List Int := if isoE a b = 0 then nth (mapsL a b) 0 else []
theorem mt_fill {n : Nat} : fillTo 0 (fun _ => (-1 : Int)) n n = List.replicate n (-1) := by
  rw [fillTo_all, tab_rep]; rfl
end Go.Fl

/- Elements of an array of the call's own. No program in sight. -/
namespace Go.Fl
open Go Go.RowKit
section
variable {P : Program} {c : Ctx} {S : Slots} {M : Conts} {p : Bool} {d : Option Tmp} {ty : TypeId} {pos : String} {af : Array Edge} {gd : Option (Nat × Bool)} {x y : Operand} {b b' : Bool}
theorem ok_idxArrO {t et : TypeId} {n : Nat} [ht : TyArr P t n et] {sz by' : Nat} {zz : Value} [hz : TySz P et sz by' zz] {u o : Nat} {ik : IntKind} {i : Int} (hx : opK S x = some (b, kOwn u o)) (hb : p = true → b = true) (hy : opK S y = some (b', kInt ik i)) (hb' : p = true → b' = true) (h : p = true → 0 ≤ i ∧ i < n) :
    OpOk P c S M ⟨d, .indexAddr t x y, ty, pos, af, gd⟩ p (kOwn u (o + i.toNat * sz)) none :=
  OpOk.pure fun hp a g w _ _ ho => by
    obtain ⟨bl, cap, h1, h2⟩ := ho x (by simp [Op.operands]) b _ hx (hb hp)
    have h3 : a.eval y = _ := ho y (by simp [Op.operands]) b' _ hy (hb' hp)
    have hlt := h hp
    obtain ⟨ti, hi, rfl, _, _⟩ := hz.h
    refine ⟨.pointer (some ⟨bl, o + i.toNat * ti.size, none⟩), ?_, bl, cap, h1, rfl⟩
    simp [execOp, h2, h3, Instr.indexAt, run_underlying ht.h, asIntOf, hlt, sizeOf, typeInfo, hi, Instr.sureAddr, Addr.add_lit]
end
end Go.Fl

/- Contracts: maps; the law of maps. -/
namespace Go.Fl
open Go Go.Proofs


theorem opt_get {o : Option (List Int)} (h : o.isSome = true) : o = some (o.getD []) := by cases o with
  | none => cases h
  | some x => rfl
theorem opt_none {o : Option (List Int)} (h : o.isSome = false) : o = none := by cases o with
  | none => rfl
  | some x => cases h

set_option maxRecDepth 100000 in
set_option maxHeartbeats 2000000 in
theorem ct_mapTo (a b : Ori) (s : Int) (va : Valid a) (ca : Conn a) (vb : Valid b) (hs : Sq b.1.length s) : Ct Try.prog 124 [kRd eO a, kRd eO b, kI s] (kTup [kIf (homAt a b s).isSome (kRd (eL eI) ((homAt a b s).getD [])) (kDet (.slice none 0 0)), kB (homAt a b s).isSome]) := by
  have hv0 := va.pos
  have hv1 := va.len
  have hv2 := va.le
  have hw1 := vb.len
  have h00 : Sq a.1.length 0 := ⟨by omega, by omega⟩
  have hg0 := good1 h00
  refine Ct.mk Try.func124 rfl Try.ntmps124 rfl (fun w J => ?_)
  refine Tr.seq ?_
  refine Tr.rg ?_
  refine TrL.new (ok_box 3 rfl (fun _ => rfl) rfl) rfl rfl rfl rfl ?_
  refine TrL.new (ok_box 4 rfl (fun _ => rfl) rfl) rfl rfl rfl rfl ?_
  refine TrL.op (ok_assign rfl (fun _ => rfl)) rfl rfl ?_
  refine TrL.op (ok_assign rfl (fun _ => rfl)) rfl rfl ?_
  refine TrL.fin ?_
  refine End.nxt ?_
  refine Tr.seq ?_
  refine Tr.rg ?_
  refine TrL.op (ok_bslJ eI (fun hp => .cons rfl <| .nil) rfl rfl rfl rfl) rfl rfl ?_
  refine TrL.op (ok_fldO rfl (fun _ => rfl)) rfl rfl ?_
  refine TrL.op (ok_ldB rfl (fun _ => rfl) rfl) rfl rfl ?_
  refine TrL.op (ok_lenJ rfl (fun _ => rfl)) rfl rfl ?_
  refine TrL.new (ok_callN 18 (fun hp => ct_RepeatN _ _ (by omega) (by omega)) (.a rfl (fun _ => rfl) <| .a rfl (fun _ => rfl) <| .nil)) rfl rfl rfl rfl ?_
  refine TrL.op (ok_assign rfl (fun _ => rfl)) rfl rfl ?_
  refine TrL.fin ?_
  refine End.nxt ?_
  refine Tr.seq ?_
  refine Tr.rg ?_
  refine TrL.op (ok_move rfl (fun _ => rfl)) rfl rfl ?_
  refine TrL.op (ok_move rfl (fun _ => rfl)) rfl rfl ?_
  first | refine TrL.op (ok_idxEN rfl (fun _ => rfl) rfl (fun _ => rfl) (fun _ => by omega)) rfl rfl ?_ | refine TrL.op (ok_idxE rfl (fun _ => rfl) rfl (fun _ => rfl) (fun _ => by omega)) rfl rfl ?_
  refine TrL.stE rfl rfl rfl rfl rfl ?_
  refine TrL.fin ?_
  refine End.nxt ?_
  refine Tr.seq ?_
  refine Tr.rg ?_
  refine TrL.new (ok_bsl eI 22 (fun hp => .cons rfl <| .nil) rfl rfl rfl rfl) rfl rfl rfl rfl ?_
  refine TrL.op (ok_assign rfl (fun _ => rfl)) rfl rfl ?_
  refine TrL.fin ?_
  refine End.nxt ?_
  refine Tr.seq ?_
  refine Tr.seq ?_
  refine Tr.rg ?_
  refine TrL.op (ok_assign rfl (fun _ => rfl)) rfl rfl ?_
  refine TrL.fin ?_
  refine End.nxt ?_
  refine Tr.for1 (σ := Nat × List Int) [⟨3, true, _, _⟩, ⟨4, true, _, _⟩, ⟨8, true, _, _⟩] [⟨3, _, _⟩, ⟨4, _, _⟩] (fun (k, f0) => [⟨9, true, [22], kOsl 22 (bfsTo a [] 0 k).length⟩, ⟨10, true, [], kI (k : Int)⟩]) (fun (k, f0) => [⟨18, [], cArr false 3 eI f0 a.1.length⟩, ⟨22, [], cArr false 3 eI (bfsTo a [] 0 k) (bfsTo a [] 0 k).length⟩]) (fun (k, f0) => k ≤ a.1.length ∧ MapSt a b s (bfsTo a [] 0 k) f0 ∧ Kept a b (bfsTo a [] 0 k) f0 k 0) (fun (k, f0) => homAt a b s = some f0) (fun (k, f0) => a.1.length - k) ((0, (List.replicate a.1.length (-1 : Int)).set 0 s)) ⟨Nat.zero_le _, mapSt_start va hs⟩ (Ent.mk (.o rfl (by first | rfl | omega | (simp; done) | (simp; omega) | assumption) rfl <| .i rfl (by first | rfl | omega | (simp; done) | (simp; omega) | assumption) <| .k rfl rfl <| .k rfl rfl <| .k rfl rfl <| .nil) (.a (by first | rfl | omega | (simp; done) | (simp; omega) | assumption) (by first | rfl | omega | (simp; done) | (simp; omega) | assumption) <| .a (by first | rfl | omega | (simp; done) | (simp; omega) | assumption) (by first | rfl | omega | (simp; done) | (simp; omega) | assumption) <| .k rfl <| .k rfl <| .nil) rfl) ?_ ?_
  · rintro ⟨k, f0⟩ ⟨hk, hst, hkp⟩
    refine Tr.norm (S' := [⟨9, true, _, _⟩, ⟨10, true, _, _⟩, ⟨3, true, _, _⟩, ⟨4, true, _, _⟩, ⟨8, true, _, _⟩]) (M' := [⟨18, _, _⟩, ⟨22, _, _⟩, ⟨3, _, _⟩, ⟨4, _, _⟩]) rfl rfl ?_
    have hlen := bfsTo_len va hg0 k
    have hfl := hst.len
    have hxr := fun h => srch_x va hg0 (k := k) h
    have hin := fun h => hst.inn _ (nth_mem (i := k) h)
    refine Tr.seq ?_
    refine Tr.seq ?_
    refine Tr.rg ?_
    refine TrL.op (ok_move rfl (fun _ => rfl)) rfl rfl ?_
    refine TrL.op (ok_move rfl (fun _ => rfl)) rfl rfl ?_
    refine TrL.op (ok_lenO rfl (fun _ => rfl)) rfl rfl ?_
    refine TrL.op (ok_lss rfl (fun _ => rfl) rfl (fun _ => rfl)) rfl rfl ?_
    refine TrL.fin ?_
    refine End.nxt ?_
    refine Tr.cnd rfl ?_ ?_
    · intro h5
      replace h5 := of_decide_eq_true h5
      have hlt : k < (bfsTo a [] 0 k).length := by omega
      have hx := hxr hlt
      have hx0 := hx.1
      have hx1 := hx.2
      have hz := hin hlt
      have hz0 : 0 ≤ nth f0 (nth (bfsTo a [] 0 k) k).toNat := hz.1
      have hz1 : nth f0 (nth (bfsTo a [] 0 k) k).toNat < b.1.length := hz.2
      have a1 := va.ri (i := (nth (bfsTo a [] 0 k) k).toNat) (by omega)
      have a2 := va.ui (i := (nth (bfsTo a [] 0 k) k).toNat) (by omega)
      refine Tr.skip ?_
      refine End.nxt ?_
      refine Tr.seq ?_
      refine Tr.blk ?_
      refine Tr.seq ?_
      refine Tr.rg ?_
      refine TrL.op (ok_move rfl (fun _ => rfl)) rfl rfl ?_
      refine TrL.op (ok_move rfl (fun _ => rfl)) rfl rfl ?_
      first | refine TrL.op (ok_idxEN rfl (fun _ => rfl) rfl (fun _ => rfl) (fun _ => by omega)) rfl rfl ?_ | refine TrL.op (ok_idxE rfl (fun _ => rfl) rfl (fun _ => rfl) (fun _ => by omega)) rfl rfl ?_
      refine TrL.op (ok_ldE rfl (fun _ => rfl) rfl rfl rfl) rfl rfl ?_
      refine TrL.op (ok_assign rfl (fun _ => rfl)) rfl rfl ?_
      refine TrL.fin ?_
      refine End.nxt ?_
      refine Tr.seq ?_
      refine Tr.draw 30 mixed (by kernel_rfl) ?_
      refine RunD.op (ok_fldO rfl (fun _ => rfl)) rfl rfl ?_
      refine RunD.op (ok_ldB rfl (fun _ => rfl) rfl) rfl rfl ?_
      refine RunD.op (ok_move rfl (fun _ => rfl)) rfl rfl ?_
      first | refine RunD.op (ok_idxN rfl (fun _ => rfl) rfl (fun _ => rfl) rfl (fun _ => by omega)) rfl rfl ?_ | refine RunD.op (ok_idxP rfl (fun _ => rfl) rfl (fun _ => rfl) rfl (fun _ => by omega)) rfl rfl ?_
      refine RunD.op (ok_ldP rfl (fun _ => rfl) rfl) rfl rfl ?_
      refine RunD.op (ok_fldO rfl (fun _ => rfl)) rfl rfl ?_
      refine RunD.op (ok_ldB rfl (fun _ => rfl) rfl) rfl rfl ?_
      refine RunD.op (ok_move rfl (fun _ => rfl)) rfl rfl ?_
      refine RunD.op (ok_move rfl (fun _ => rfl)) rfl rfl ?_
      first | refine RunD.op (ok_idxEN rfl (fun _ => rfl) rfl (fun _ => rfl) (fun _ => by omega)) rfl rfl ?_ | refine RunD.op (ok_idxE rfl (fun _ => rfl) rfl (fun _ => rfl) (fun _ => by omega)) rfl rfl ?_
      refine RunD.op (ok_ldE rfl (fun _ => rfl) rfl rfl rfl) rfl rfl ?_
      first | refine RunD.op (ok_idxN rfl (fun _ => rfl) rfl (fun _ => rfl) rfl (fun _ => by omega)) rfl rfl ?_ | refine RunD.op (ok_idxP rfl (fun _ => rfl) rfl (fun _ => rfl) rfl (fun _ => by omega)) rfl rfl ?_
      refine RunD.op (ok_ldP rfl (fun _ => rfl) rfl) rfl rfl ?_
      refine RunD.op (ok_buildL [(0, 1), (1, 1)] rfl (fun hp => .cons rfl rfl rfl <| .cons rfl rfl rfl <| .nil)) rfl rfl ?_
      refine RunD.op (ok_fldO rfl (fun _ => rfl)) rfl rfl ?_
      refine RunD.op (ok_ldB rfl (fun _ => rfl) rfl) rfl rfl ?_
      refine RunD.op (ok_move rfl (fun _ => rfl)) rfl rfl ?_
      first | refine RunD.op (ok_idxN rfl (fun _ => rfl) rfl (fun _ => rfl) rfl (fun _ => by omega)) rfl rfl ?_ | refine RunD.op (ok_idxP rfl (fun _ => rfl) rfl (fun _ => rfl) rfl (fun _ => by omega)) rfl rfl ?_
      refine RunD.op (ok_ldP rfl (fun _ => rfl) rfl) rfl rfl ?_
      refine RunD.op (ok_fldO rfl (fun _ => rfl)) rfl rfl ?_
      refine RunD.op (ok_ldB rfl (fun _ => rfl) rfl) rfl rfl ?_
      refine RunD.op (ok_move rfl (fun _ => rfl)) rfl rfl ?_
      refine RunD.op (ok_move rfl (fun _ => rfl)) rfl rfl ?_
      first | refine RunD.op (ok_idxEN rfl (fun _ => rfl) rfl (fun _ => rfl) (fun _ => by omega)) rfl rfl ?_ | refine RunD.op (ok_idxE rfl (fun _ => rfl) rfl (fun _ => rfl) (fun _ => by omega)) rfl rfl ?_
      refine RunD.op (ok_ldE rfl (fun _ => rfl) rfl rfl rfl) rfl rfl ?_
      first | refine RunD.op (ok_idxN rfl (fun _ => rfl) rfl (fun _ => rfl) rfl (fun _ => by omega)) rfl rfl ?_ | refine RunD.op (ok_idxP rfl (fun _ => rfl) rfl (fun _ => rfl) rfl (fun _ => by omega)) rfl rfl ?_
      refine RunD.op (ok_ldP rfl (fun _ => rfl) rfl) rfl rfl ?_
      refine RunD.op (ok_buildL [(0, 1), (1, 1)] rfl (fun hp => .cons rfl rfl rfl <| .cons rfl rfl rfl <| .nil)) rfl rfl ?_
      refine RunD.op (ok_buildL [(0, 2), (2, 2)] rfl (fun hp => .cons rfl rfl rfl <| .cons rfl rfl rfl <| .nil)) rfl rfl ?_
      refine RunD.op (ok_move rfl (fun _ => rfl)) rfl rfl ?_
      refine RunD.z ?_
      refine TrL.fin ?_
      refine End.nxt ?_
      refine Tr.for1 (σ := Nat × List Int) [⟨3, true, _, _⟩, ⟨4, true, _, _⟩, ⟨8, true, _, _⟩, ⟨10, true, _, _⟩, ⟨61, true, _, _⟩] [⟨3, _, _⟩, ⟨4, _, _⟩] (fun (j, f) => [⟨9, true, [22], kOsl 22 (srch a [] 0 k j).length⟩, ⟨62, true, [], kI (j : Int)⟩]) (fun (j, f) => [⟨18, [], cArr false 3 eI f a.1.length⟩, ⟨22, [], cArr false 3 eI (srch a [] 0 k j) (srch a [] 0 k j).length⟩]) (fun (j, f) => j ≤ 2 ∧ MpSt a b s k j f0 f) (fun (j, f) => j = 2 ∧ MpSt a b s k 2 f0 f) (fun (j, f) => 2 - j) ((0, f0)) ⟨by omega, MpSt.start hst hkp⟩ (Ent.mk (.o rfl (by first | rfl | omega | (simp; done) | (simp; omega) | assumption) rfl <| .i rfl (by first | rfl | omega | (simp; done) | (simp; omega) | assumption) <| .k rfl rfl <| .k rfl rfl <| .k rfl rfl <| .k rfl rfl <| .k rfl rfl <| .nil) (.a (by first | rfl | omega | (simp; done) | (simp; omega) | assumption) (by first | rfl | omega | (simp; done) | (simp; omega) | assumption) <| .a (by first | rfl | omega | (simp; done) | (simp; omega) | assumption) (by first | rfl | omega | (simp; done) | (simp; omega) | assumption) <| .k rfl <| .k rfl <| .nil) rfl) ?_ ?_
      · rintro ⟨j, f⟩ ⟨hj, hmp⟩
        refine Tr.norm (S' := [⟨9, true, _, _⟩, ⟨62, true, _, _⟩, ⟨3, true, _, _⟩, ⟨4, true, _, _⟩, ⟨8, true, _, _⟩, ⟨10, true, _, _⟩, ⟨61, true, _, _⟩]) (M' := [⟨18, _, _⟩, ⟨22, _, _⟩, ⟨3, _, _⟩, ⟨4, _, _⟩]) rfl rfl ?_
        have hfl2 := hmp.st.len
        have hgl := srch_len (j := j) va hg0 hlt
        refine Tr.seq ?_
        refine Tr.rg ?_
        refine TrL.op (ok_lss rfl (fun _ => rfl) rfl (fun _ => rfl)) rfl rfl ?_
        refine TrL.fin ?_
        refine End.nxt ?_
        refine Tr.seq ?_
        refine Tr.cnd rfl ?_ ?_
        · intro h9
          replace h9 := of_decide_eq_true h9
          have hj2 : j < 2 := by omega
          obtain ⟨hyA, hyB⟩ := nth_fst2 (p := nth a.1 (nth (bfsTo a [] 0 k) k).toNat) (q := nth b.1 (nth f0 (nth (bfsTo a [] 0 k) k).toNat).toNat) (r := nth a.2 (nth (bfsTo a [] 0 k) k).toNat) (s := nth b.2 (nth f0 (nth (bfsTo a [] 0 k) k).toNat).toNat) hj2
          have hy := stp_nth_sq va hx hj2
          have hyS : Sq a.1.length (nth [(nth a.1 (nth (bfsTo a [] 0 k) k).toNat, nth b.1 (nth f0 (nth (bfsTo a [] 0 k) k).toNat).toNat, ()), (nth a.2 (nth (bfsTo a [] 0 k) k).toNat, nth b.2 (nth f0 (nth (bfsTo a [] 0 k) k).toNat).toNat, ())] j).1 := by rw [hyA]; exact hy
          have hy0 := hyS.1
          have hy1 := hyS.2
          refine Tr.skip ?_
          refine End.nxt ?_
          refine Tr.seq ?_
          refine Tr.blk ?_
          refine Tr.seq ?_
          refine Tr.rg ?_
          refine TrL.op (ok_idxAA (eP eI (eP eI eU)) rfl (fun _ => rfl) rfl (fun _ => rfl) rfl rfl rfl (fun _ => ⟨by omega, by simp; omega⟩)) rfl rfl ?_
          refine TrL.new (ok_alloc 13) rfl rfl rfl rfl ?_
          refine TrL.stB rfl rfl rfl rfl ?_
          refine TrL.fin ?_
          refine End.nxt ?_
          refine Tr.seq ?_
          refine Tr.rg ?_
          refine TrL.op (ok_move rfl (fun _ => rfl)) rfl rfl ?_
          refine TrL.op (ok_idxArrO rfl (fun _ => rfl) rfl (fun _ => rfl) (fun _ => by decide)) rfl rfl ?_
          refine TrL.op (ok_ldB rfl (fun _ => rfl) rfl) rfl rfl ?_
          first | refine TrL.op (ok_idxEN rfl (fun _ => rfl) rfl (fun _ => rfl) (fun _ => by omega)) rfl rfl ?_ | refine TrL.op (ok_idxE rfl (fun _ => rfl) rfl (fun _ => rfl) (fun _ => by omega)) rfl rfl ?_
          refine TrL.op (ok_ldE rfl (fun _ => rfl) rfl rfl rfl) rfl rfl ?_
          refine TrL.fin ?_
          refine End.nxt ?_
          refine Tr.blk ?_
          refine Tr.seq ?_
          refine Tr.rg ?_
          refine TrL.op (ok_idxArrO rfl (fun _ => rfl) rfl (fun _ => rfl) (fun _ => by decide)) rfl rfl ?_
          refine TrL.op (ok_ldB rfl (fun _ => rfl) rfl) rfl rfl ?_
          refine TrL.op (ok_eql rfl (fun _ => rfl) rfl (fun _ => rfl)) rfl rfl ?_
          refine TrL.op (ok_assign rfl (fun _ => rfl)) rfl rfl ?_
          refine TrL.fin ?_
          refine End.nxt ?_
          refine Tr.cnd rfl ?_ ?_
          · intro h13
            try simp only [decide_eq_true_eq] at h13
            have hcase : ap f (nth (stp a (nth (bfsTo a [] 0 k) k)) j) = nth (stp b (ap f0 (nth (bfsTo a [] 0 k) k))) j := by rw [hyA, hyB] at h13; exact h13
            refine Tr.skip ?_
            refine End.blk ?_
            refine End.blk ?_
            refine End.nxt ?_
            refine Tr.rg ?_
            refine TrL.op (ok_add rfl (fun _ => rfl) rfl (fun _ => rfl) (fun _ => by omega)) rfl rfl ?_
            refine TrL.op (ok_move rfl (fun _ => rfl)) rfl rfl ?_
            refine TrL.fin ?_
            exact End.lp ((j + 1, f)) ⟨by omega, (hmp.old va hlt hj2 hg0 vb hcase).2⟩ (show 2 - (j + 1) < 2 - j by omega) (Ent.mk (.o rfl (by rw [(hmp.old va hlt hj2 hg0 vb hcase).1]) rfl <| .i rfl (by first | rfl | omega | (simp; done) | (simp; omega) | assumption) <| .k rfl rfl <| .k rfl rfl <| .k rfl rfl <| .k rfl rfl <| .k rfl rfl <| .nil) (.a (by first | rfl | omega | (simp; done) | (simp; omega) | assumption) (by first | rfl | omega | (simp; done) | (simp; omega) | assumption) <| .a (by rw [(hmp.old va hlt hj2 hg0 vb hcase).1]) (by rw [(hmp.old va hlt hj2 hg0 vb hcase).1]) <| .k rfl <| .k rfl <| .nil) rfl)
          · intro h13
            try simp only [decide_eq_false_iff_not] at h13
            have hc1 : ap f (nth (stp a (nth (bfsTo a [] 0 k) k)) j) ≠ nth (stp b (ap f0 (nth (bfsTo a [] 0 k) k))) j := by rw [hyA, hyB] at h13; exact h13
            refine Tr.seq ?_
            refine Tr.rg ?_
            refine TrL.op (ok_eql rfl (fun _ => rfl) rfl (fun _ => rfl)) rfl rfl ?_
            refine TrL.op (ok_assign rfl (fun _ => rfl)) rfl rfl ?_
            refine TrL.fin ?_
            refine End.nxt ?_
            refine Tr.cnd rfl ?_ ?_
            · intro h14
              try simp only [decide_eq_true_eq] at h14
              have hcase : ap f (nth (stp a (nth (bfsTo a [] 0 k) k)) j) = -1 := by rw [hyA] at h14; exact h14
              refine Tr.seq ?_
              refine Tr.rg ?_
              refine TrL.op (ok_move rfl (fun _ => rfl)) rfl rfl ?_
              refine TrL.op (ok_idxArrO rfl (fun _ => rfl) rfl (fun _ => rfl) (fun _ => by decide)) rfl rfl ?_
              refine TrL.op (ok_ldB rfl (fun _ => rfl) rfl) rfl rfl ?_
              refine TrL.op (ok_idxArrO rfl (fun _ => rfl) rfl (fun _ => rfl) (fun _ => by decide)) rfl rfl ?_
              refine TrL.op (ok_ldB rfl (fun _ => rfl) rfl) rfl rfl ?_
              first | refine TrL.op (ok_idxEN rfl (fun _ => rfl) rfl (fun _ => rfl) (fun _ => by omega)) rfl rfl ?_ | refine TrL.op (ok_idxE rfl (fun _ => rfl) rfl (fun _ => rfl) (fun _ => by omega)) rfl rfl ?_
              refine TrL.stE rfl rfl rfl rfl rfl ?_
              refine TrL.fin ?_
              refine End.nxt ?_
              refine Tr.rg ?_
              refine TrL.op (ok_move rfl (fun _ => rfl)) rfl rfl ?_
              refine TrL.op (ok_idxArrO rfl (fun _ => rfl) rfl (fun _ => rfl) (fun _ => by decide)) rfl rfl ?_
              refine TrL.op (ok_ldB rfl (fun _ => rfl) rfl) rfl rfl ?_
              refine TrL.new (ok_bsl eI 85 (fun hp => .cons rfl <| .nil) rfl rfl rfl rfl) rfl rfl rfl rfl ?_
              refine TrL.app rfl rfl rfl rfl rfl rfl rfl rfl (by first | omega | (simp only [List.length_cons, List.length_nil]; omega)) (by first | omega | (simp only [List.length_cons, List.length_nil]; omega)) ?_
              refine TrL.norm (S' := ⟨_, _, _, _⟩ :: ⟨_, _, _, _⟩ :: ⟨_, _, _, _⟩ :: ⟨_, _, _, _⟩ :: ⟨_, _, _, _⟩ :: ⟨_, _, _, _⟩ :: ⟨_, _, _, _⟩ :: ⟨_, _, _, _⟩ :: ⟨_, _, _, _⟩ :: ⟨_, _, _, _⟩ :: ⟨_, _, _, _⟩ :: ⟨_, _, _, _⟩ :: ⟨_, _, _, _⟩ :: ⟨_, _, _, _⟩ :: ⟨_, _, _, _⟩ :: ⟨_, _, _, _⟩ :: ⟨_, _, _, _⟩ :: ⟨_, _, _, _⟩ :: ⟨_, _, _, _⟩ :: ⟨_, _, _, _⟩ :: ⟨_, _, _, _⟩ :: ⟨_, _, _, _⟩ :: ⟨_, _, _, _⟩ :: ⟨_, _, _, _⟩ :: ⟨_, _, _, _⟩ :: ⟨_, _, _, _⟩ :: ⟨_, _, _, _⟩ :: ⟨_, _, _, _⟩ :: ⟨_, _, _, _⟩ :: ⟨_, _, _, _⟩ :: ⟨_, _, _, _⟩ :: ⟨_, _, _, _⟩ :: []) rfl rfl ?_
              refine TrL.op (ok_assign rfl (fun _ => rfl)) rfl rfl ?_
              refine TrL.fin ?_
              refine End.blk ?_
              refine End.blk ?_
              refine End.nxt ?_
              refine Tr.rg ?_
              refine TrL.op (ok_add rfl (fun _ => rfl) rfl (fun _ => rfl) (fun _ => by omega)) rfl rfl ?_
              refine TrL.op (ok_move rfl (fun _ => rfl)) rfl rfl ?_
              refine TrL.fin ?_
              exact End.lp ((j + 1, f.set (nth (stp a (nth (bfsTo a [] 0 k) k)) j).toNat (nth (stp b (ap f0 (nth (bfsTo a [] 0 k) k))) j))) ⟨by omega, (hmp.new va hlt hj2 hg0 vb hcase).2⟩ (show 2 - (j + 1) < 2 - j by omega) (Ent.mk (.o rfl (by rw [(hmp.new va hlt hj2 hg0 vb hcase).1, List.length_append]; rfl) rfl <| .i rfl (by first | rfl | omega | (simp; done) | (simp; omega) | assumption) <| .k rfl rfl <| .k rfl rfl <| .k rfl rfl <| .k rfl rfl <| .k rfl rfl <| .nil) (.a (by rw [hyA, hyB]; rfl) (by first | rfl | omega | (simp; done) | (simp; omega) | assumption) <| .a (by rw [(hmp.new va hlt hj2 hg0 vb hcase).1, hyA]; rfl) (by rw [(hmp.new va hlt hj2 hg0 vb hcase).1, List.length_append]; rfl) <| .k rfl <| .k rfl <| .nil) rfl)
            · intro h14
              try simp only [decide_eq_false_iff_not] at h14
              have hno := hmp.clash va hlt hj2 hc1 (by rw [hyA] at h14; exact h14)
              refine Tr.seq ?_
              refine Tr.rg ?_
              refine TrL.op (ok_assign rfl (fun _ => rfl)) rfl rfl ?_
              refine TrL.op (ok_assign rfl (fun _ => rfl)) rfl rfl ?_
              refine TrL.fin ?_
              refine End.nxt ?_
              refine Tr.ret ?_
              refine Rts.out ?_
              refine Rts.out ?_
              refine Rts.thn ?_
              refine Rts.thn ?_
              refine Rts.out ?_
              refine Rts.thn ?_
              refine Rts.out ?_
              refine Rts.thn ?_
              refine Rts.thn ?_
              refine Rts.out ?_
              refine Rts.thn ?_
              refine Rts.thn ?_
              exact Rts.res (fn := Try.f124) (ts := [6, 7]) rfl rfl (.ifF rfl (by rw [hno]; rfl) (fun _ _ h => h) <| .b rfl (by rw [hno]; rfl) <| .nil)
        · intro h9
          replace h9 := Int.not_lt.1 (of_decide_eq_false h9)
          refine Tr.exit ?_
          refine Exs.thn ?_
          refine Exs.thn ?_
          refine Exs.here ?_
          exact End.cut ((j, f)) (by (obtain rfl : j = 2 := by omega); exact ⟨rfl, hmp⟩) (Ent.mk (.o rfl (by first | rfl | omega | (simp; done) | (simp; omega) | assumption) rfl <| .i rfl (by first | rfl | omega | (simp; done) | (simp; omega) | assumption) <| .k rfl rfl <| .k rfl rfl <| .k rfl rfl <| .k rfl rfl <| .k rfl rfl <| .nil) (.a (by first | rfl | omega | (simp; done) | (simp; omega) | assumption) (by first | rfl | omega | (simp; done) | (simp; omega) | assumption) <| .a (by first | rfl | omega | (simp; done) | (simp; omega) | assumption) (by first | rfl | omega | (simp; done) | (simp; omega) | assumption) <| .k rfl <| .k rfl <| .nil) rfl)
      · rintro ⟨j, f⟩ ⟨hj2, hmp⟩
        refine End.norm (S' := [⟨9, true, _, _⟩, ⟨62, true, _, _⟩, ⟨3, true, _, _⟩, ⟨4, true, _, _⟩, ⟨8, true, _, _⟩, ⟨10, true, _, _⟩, ⟨61, true, _, _⟩]) (M' := [⟨18, _, _⟩, ⟨22, _, _⟩, ⟨3, _, _⟩, ⟨4, _, _⟩]) rfl rfl ?_
        subst hj2
        refine End.blk ?_
        refine End.nxt ?_
        refine Tr.rg ?_
        refine TrL.op (ok_move rfl (fun _ => rfl)) rfl rfl ?_
        refine TrL.op (ok_add rfl (fun _ => rfl) rfl (fun _ => rfl) (fun _ => by omega)) rfl rfl ?_
        refine TrL.op (ok_assign rfl (fun _ => rfl)) rfl rfl ?_
        refine TrL.fin ?_
        exact End.lp ((k + 1, f)) ⟨by omega, hmp.fin hlt⟩ (show a.1.length - (k + 1) < a.1.length - k by omega) (Ent.mk (.o rfl (by rw [srch_two hlt]) rfl <| .i rfl (by first | rfl | omega | (simp; done) | (simp; omega) | assumption) <| .k rfl rfl <| .k rfl rfl <| .k rfl rfl <| .nil) (.a (by first | rfl | omega | (simp; done) | (simp; omega) | assumption) (by first | rfl | omega | (simp; done) | (simp; omega) | assumption) <| .a (by rw [srch_two hlt]) (by rw [srch_two hlt]) <| .k rfl <| .k rfl <| .nil) rfl)
    · intro h5
      replace h5 := Int.not_lt.1 (of_decide_eq_false h5)
      refine Tr.exit ?_
      refine Exs.thn ?_
      refine Exs.thn ?_
      refine Exs.here ?_
      exact End.cut ((k, f0)) (map_end va ca hg0 (by omega) hst hkp) (Ent.mk (.o rfl (by first | rfl | omega | (simp; done) | (simp; omega) | assumption) rfl <| .i rfl (by first | rfl | omega | (simp; done) | (simp; omega) | assumption) <| .k rfl rfl <| .k rfl rfl <| .k rfl rfl <| .nil) (.a (by first | rfl | omega | (simp; done) | (simp; omega) | assumption) (by first | rfl | omega | (simp; done) | (simp; omega) | assumption) <| .a (by first | rfl | omega | (simp; done) | (simp; omega) | assumption) (by first | rfl | omega | (simp; done) | (simp; omega) | assumption) <| .k rfl <| .k rfl <| .nil) rfl)
  · rintro ⟨k, f0⟩ hE0
    refine End.norm (S' := [⟨9, true, _, _⟩, ⟨10, true, _, _⟩, ⟨3, true, _, _⟩, ⟨4, true, _, _⟩, ⟨8, true, _, _⟩]) (M' := [⟨18, _, _⟩, ⟨22, _, _⟩, ⟨3, _, _⟩, ⟨4, _, _⟩]) rfl rfl ?_
    refine End.nxt ?_
    refine Tr.seq ?_
    refine Tr.rg ?_
    refine TrL.op (ok_move rfl (fun _ => rfl)) rfl rfl ?_
    refine TrL.op (ok_assign rfl (fun _ => rfl)) rfl rfl ?_
    refine TrL.op (ok_assign rfl (fun _ => rfl)) rfl rfl ?_
    refine TrL.fin ?_
    refine End.nxt ?_
    refine Tr.frz 18 [6] ⟨rfl, trivial⟩ (by simp only [lenMax]; omega) rfl ?_
    refine Tr.ret ?_
    exact Rts.res (fn := Try.f124) (ts := [6, 7]) rfl rfl (.ifT rfl (by rw [hE0]; rfl) (fun _ _ h => by rw [hE0]; exact h) <| .b rfl (by rw [hE0]; rfl) <| .nil)

set_option maxRecDepth 100000 in
theorem ct_maps (a b : Ori) (va : Valid a) (ca : Conn a) (vb : Valid b) : Ct Try.prog 100 [kRd eO a, kRd eO b] (kRd (eL (eL eI)) (mapsL a b)) := by
  have hv2 := vb.le
  refine Ct.mk Try.func100 rfl Try.ntmps100 rfl (fun w J => ?_)
  refine Tr.seq ?_
  refine Tr.rg ?_
  refine TrL.new (ok_box 2 rfl (fun _ => rfl) rfl) rfl rfl rfl rfl ?_
  refine TrL.new (ok_box 3 rfl (fun _ => rfl) rfl) rfl rfl rfl rfl ?_
  refine TrL.op (ok_assign rfl (fun _ => rfl)) rfl rfl ?_
  refine TrL.fin ?_
  refine End.nxt ?_
  refine Tr.seq ?_
  refine Tr.rg ?_
  refine TrL.op (ok_assign rfl (fun _ => rfl)) rfl rfl ?_
  refine TrL.fin ?_
  refine End.nxt ?_
  refine Tr.seq ?_
  refine Tr.seq ?_
  refine Tr.rg ?_
  refine TrL.op (ok_fldO rfl (fun _ => rfl)) rfl rfl ?_
  refine TrL.op (ok_ldB rfl (fun _ => rfl) rfl) rfl rfl ?_
  refine TrL.op (ok_lenJ rfl (fun _ => rfl)) rfl rfl ?_
  refine TrL.op (ok_move rfl (fun _ => rfl)) rfl rfl ?_
  refine TrL.fin ?_
  refine End.nxt ?_
  refine Tr.grow (s := 5) rfl rfl 5 rfl 22 (eL eI) rfl ?_
  refine Tr.for1 (σ := Nat) [⟨2, true, _, _⟩, ⟨3, true, _, _⟩, ⟨11, true, _, _⟩] [⟨2, _, _⟩, ⟨3, _, _⟩] (fun k => [⟨5, true, [5], kOsl 5 (mapsTo a b k).length⟩, ⟨12, true, [], kI (k : Int)⟩]) (fun k => [⟨5, [], cArr true 22 (eL eI) (mapsTo a b k) (mapsTo a b k).length⟩]) (fun k => k ≤ b.1.length) (fun k => k = b.1.length) (fun k => b.1.length - k) (0) (Nat.zero_le _) (Ent.mk (.o rfl (by first | rfl | omega | (simp; done) | (simp; omega) | assumption) rfl <| .i rfl (by first | rfl | omega | (simp; done) | (simp; omega) | assumption) <| .k rfl rfl <| .k rfl rfl <| .k rfl rfl <| .nil) (.a (by rfl) (by first | rfl | omega | (simp; done) | (simp; omega) | assumption) <| .k rfl <| .k rfl <| .nil) rfl) ?_ ?_
  · intro k hR0
    refine Tr.norm (S' := [⟨5, true, _, _⟩, ⟨12, true, _, _⟩, ⟨2, true, _, _⟩, ⟨3, true, _, _⟩, ⟨11, true, _, _⟩]) (M' := [⟨5, _, _⟩, ⟨2, _, _⟩, ⟨3, _, _⟩]) rfl rfl ?_
    have hml := mapsTo_len (a := a) (b := b) (k := k)
    refine Tr.seq ?_
    refine Tr.rg ?_
    refine TrL.op (ok_lss rfl (fun _ => rfl) rfl (fun _ => rfl)) rfl rfl ?_
    refine TrL.fin ?_
    refine End.nxt ?_
    refine Tr.seq ?_
    refine Tr.cnd rfl ?_ ?_
    · intro h3
      replace h3 := of_decide_eq_true h3
      have hks : Sq b.1.length (k : Int) := Sq.nat (by omega)
      refine Tr.skip ?_
      refine End.nxt ?_
      refine Tr.seq ?_
      refine Tr.blk ?_
      refine Tr.seq ?_
      refine Tr.rg ?_
      refine TrL.op (ok_move rfl (fun _ => rfl)) rfl rfl ?_
      refine TrL.op (ok_assign rfl (fun _ => rfl)) rfl rfl ?_
      refine TrL.fin ?_
      refine End.nxt ?_
      refine Tr.seq ?_
      refine Tr.rg ?_
      refine TrL.op (ok_ldBS rfl (fun _ => rfl)) rfl rfl ?_
      refine TrL.op (ok_ldBS rfl (fun _ => rfl)) rfl rfl ?_
      refine TrL.op (ok_move rfl (fun _ => rfl)) rfl rfl ?_
      refine TrL.op (ok_call (fun hp => ct_mapTo _ _ _ va ca vb hks) (.s rfl (fun _ => rfl) rfl <| .s rfl (fun _ => rfl) rfl <| .a rfl (fun _ => rfl) <| .nil)) rfl rfl ?_
      refine TrL.op (ok_move rfl (fun _ => rfl)) rfl rfl ?_
      refine TrL.op (ok_ext rfl (fun _ => rfl) rfl) rfl rfl ?_
      refine TrL.op (ok_ext rfl (fun _ => rfl) rfl) rfl rfl ?_
      refine TrL.op (ok_assign rfl (fun _ => rfl)) rfl rfl ?_
      refine TrL.op (ok_assign rfl (fun _ => rfl)) rfl rfl ?_
      refine TrL.fin ?_
      refine End.nxt ?_
      refine Tr.seq ?_
      refine Tr.rg ?_
      refine TrL.op (ok_move rfl (fun _ => rfl)) rfl rfl ?_
      refine TrL.fin ?_
      refine End.nxt ?_
      refine Tr.cnd rfl ?_ ?_
      · intro h6
        have hsm : homAt a b k = some ((homAt a b k).getD []) := opt_get h6
        refine Tr.ifT (s := 7) rfl h6 rfl ?_
        refine Tr.rg ?_
        refine TrL.op (ok_move rfl (fun _ => rfl)) rfl rfl ?_
        refine TrL.op (ok_move rfl (fun _ => rfl)) rfl rfl ?_
        refine TrL.new (ok_bsl (eL eI) 25 (fun hp => .cons rfl <| .nil) rfl rfl rfl rfl) rfl rfl rfl rfl ?_
        refine TrL.app rfl rfl rfl rfl rfl rfl rfl rfl (by first | omega | (simp only [List.length_cons, List.length_nil]; omega)) (by first | omega | (simp only [List.length_cons, List.length_nil]; omega)) ?_
        refine TrL.norm (S' := [⟨_, _, _, _⟩, ⟨_, _, _, _⟩, ⟨_, _, _, _⟩, ⟨_, _, _, _⟩, ⟨_, _, _, _⟩, ⟨_, _, _, _⟩, ⟨_, _, _, _⟩, ⟨_, _, _, _⟩, ⟨_, _, _, _⟩, ⟨_, _, _, _⟩, ⟨_, _, _, _⟩, ⟨_, _, _, _⟩, ⟨_, _, _, _⟩, ⟨_, _, _, _⟩, ⟨_, _, _, _⟩, ⟨_, _, _, _⟩, ⟨_, _, _, _⟩, ⟨_, _, _, _⟩, ⟨_, _, _, _⟩, ⟨_, _, _, _⟩, ⟨_, _, _, _⟩, ⟨_, _, _, _⟩, ⟨_, _, _, _⟩]) rfl rfl ?_
        refine TrL.op (ok_assign rfl (fun _ => rfl)) rfl rfl ?_
        refine TrL.fin ?_
        refine End.blk ?_
        refine End.nxt ?_
        refine Tr.rg ?_
        refine TrL.op (ok_add rfl (fun _ => rfl) rfl (fun _ => rfl) (fun _ => by omega)) rfl rfl ?_
        refine TrL.op (ok_move rfl (fun _ => rfl)) rfl rfl ?_
        refine TrL.fin ?_
        exact End.lp (k + 1) (by first | rfl | omega | (simp; done) | (simp; omega) | assumption) (by omega) (Ent.mk (.o rfl (by rw [mapsTo_some hsm, List.length_append]) rfl <| .i rfl (by first | rfl | omega | (simp; done) | (simp; omega) | assumption) <| .k rfl rfl <| .k rfl rfl <| .k rfl rfl <| .nil) (.a (by rw [mapsTo_some hsm]) (by rw [mapsTo_some hsm, List.length_append]) <| .k rfl <| .k rfl <| .nil) rfl)
      · intro h6
        have hsm : homAt a b k = none := opt_none h6
        refine Tr.skip ?_
        refine End.blk ?_
        refine End.nxt ?_
        refine Tr.rg ?_
        refine TrL.op (ok_add rfl (fun _ => rfl) rfl (fun _ => rfl) (fun _ => by omega)) rfl rfl ?_
        refine TrL.op (ok_move rfl (fun _ => rfl)) rfl rfl ?_
        refine TrL.fin ?_
        exact End.lp (k + 1) (by first | rfl | omega | (simp; done) | (simp; omega) | assumption) (by omega) (Ent.mk (.o rfl (by rw [mapsTo_none hsm]) rfl <| .i rfl (by first | rfl | omega | (simp; done) | (simp; omega) | assumption) <| .k rfl rfl <| .k rfl rfl <| .k rfl rfl <| .nil) (.a (by rw [mapsTo_none hsm]) (by rw [mapsTo_none hsm]) <| .k rfl <| .k rfl <| .nil) rfl)
    · intro h3
      replace h3 := Int.not_lt.1 (of_decide_eq_false h3)
      refine Tr.exit ?_
      refine Exs.thn ?_
      refine Exs.thn ?_
      refine Exs.here ?_
      exact End.cut (k) (by omega) (Ent.mk (.o rfl (by first | rfl | omega | (simp; done) | (simp; omega) | assumption) rfl <| .i rfl (by first | rfl | omega | (simp; done) | (simp; omega) | assumption) <| .k rfl rfl <| .k rfl rfl <| .k rfl rfl <| .nil) (.a (by first | rfl | omega | (simp; done) | (simp; omega) | assumption) (by first | rfl | omega | (simp; done) | (simp; omega) | assumption) <| .k rfl <| .k rfl <| .nil) rfl)
  · rintro _ rfl
    refine End.norm (S' := [⟨5, true, _, _⟩, ⟨12, true, _, _⟩, ⟨2, true, _, _⟩, ⟨3, true, _, _⟩, ⟨11, true, _, _⟩]) (M' := [⟨5, _, _⟩, ⟨2, _, _⟩, ⟨3, _, _⟩]) rfl rfl ?_
    have hml := mapsTo_len (a := a) (b := b) (k := b.1.length)
    refine End.nxt ?_
    refine Tr.seq ?_
    refine Tr.rg ?_
    refine TrL.op (ok_move rfl (fun _ => rfl)) rfl rfl ?_
    refine TrL.op (ok_assign rfl (fun _ => rfl)) rfl rfl ?_
    refine TrL.fin ?_
    refine End.nxt ?_
    refine Tr.frz 5 [4] ⟨rfl, trivial⟩ (by simp only [lenMax]; omega) rfl ?_
    refine Tr.ret ?_
    exact Rts.res1 (fn := Try.f100) rfl (.r rfl (by first | rfl | omega | (simp; done) | (simp; omega) | assumption) <| .nil)

set_option maxRecDepth 100000 in
set_option maxHeartbeats 1000000 in
theorem ct_rMapTo (a b : Ori) (s : Int) (va : Valid a) (ca : Conn a) (vb : Valid b) (hs : Sq b.1.length s) : Ct Try.prog 101 [kRd eO a, kRd eO b, kI s] (kTup [kRd (eL eI) (mtF a b s a.1.length), kB (isMapB a b (mtF a b s a.1.length))]) := by
  have hv0 := va.pos
  have hv1 := va.len
  have hv2 := va.le
  have hw1 := vb.len
  have hs0 := hs.1
  have hs1 := hs.2
  refine Ct.mk Try.func101 rfl Try.ntmps101 rfl (fun w J => ?_)
  refine Tr.seq ?_
  refine Tr.rg ?_
  refine TrL.new (ok_box 3 rfl (fun _ => rfl) rfl) rfl rfl rfl rfl ?_
  refine TrL.new (ok_box 4 rfl (fun _ => rfl) rfl) rfl rfl rfl rfl ?_
  refine TrL.op (ok_assign rfl (fun _ => rfl)) rfl rfl ?_
  refine TrL.op (ok_assign rfl (fun _ => rfl)) rfl rfl ?_
  refine TrL.fin ?_
  refine End.nxt ?_
  refine Tr.seq ?_
  refine Tr.rg ?_
  refine TrL.op (ok_ldBS rfl (fun _ => rfl)) rfl rfl ?_
  refine TrL.op (ok_call (fun hp => ct_rSize _) (.s rfl (fun _ => rfl) rfl <| .nil)) rfl rfl ?_
  refine TrL.new (ok_makeN eI 14 rfl (fun _ => rfl) rfl (fun _ => rfl) rfl rfl rfl (fun _ => by omega)) rfl rfl rfl rfl ?_
  refine TrL.op (ok_assign rfl (fun _ => rfl)) rfl rfl ?_
  refine TrL.fin ?_
  refine End.nxt ?_
  refine Tr.seq ?_
  refine Tr.seq ?_
  refine Tr.rg ?_
  refine TrL.op (ok_assign rfl (fun _ => rfl)) rfl rfl ?_
  refine TrL.fin ?_
  refine End.nxt ?_
  refine Tr.for1 (σ := Nat) [⟨2, true, _, _⟩, ⟨3, true, _, _⟩, ⟨4, true, _, _⟩, ⟨8, true, _, _⟩] [⟨3, _, _⟩, ⟨4, _, _⟩] (fun k => [⟨9, true, [], kI (k : Int)⟩]) (fun k => [⟨14, [], cArr false 3 eI (fillTo 0 (fun _ => (-1 : Int)) a.1.length k) a.1.length⟩]) (fun k => k ≤ a.1.length) (fun k => k = a.1.length) (fun k => a.1.length - k) (0) (Nat.zero_le _) (Ent.mk (.i rfl (by first | rfl | omega | (simp; done) | (simp; omega) | assumption) <| .k rfl rfl <| .k rfl rfl <| .k rfl rfl <| .k rfl rfl <| .nil) (.a fillTo_zero (by first | rfl | omega | (simp; done) | (simp; omega) | assumption) <| .k rfl <| .k rfl <| .nil) rfl) ?_ ?_
  · intro k hR0
    refine Tr.norm (S' := [⟨9, true, _, _⟩, ⟨2, true, _, _⟩, ⟨3, true, _, _⟩, ⟨4, true, _, _⟩, ⟨8, true, _, _⟩]) (M' := [⟨14, _, _⟩, ⟨3, _, _⟩, ⟨4, _, _⟩]) rfl rfl ?_
    refine Tr.seq ?_
    refine Tr.seq ?_
    refine Tr.rg ?_
    refine TrL.op (ok_move rfl (fun _ => rfl)) rfl rfl ?_
    refine TrL.op (ok_ldBS rfl (fun _ => rfl)) rfl rfl ?_
    refine TrL.op (ok_call (fun hp => ct_rSize _) (.s rfl (fun _ => rfl) rfl <| .nil)) rfl rfl ?_
    refine TrL.op (ok_lss rfl (fun _ => rfl) rfl (fun _ => rfl)) rfl rfl ?_
    refine TrL.fin ?_
    refine End.nxt ?_
    refine Tr.cnd rfl ?_ ?_
    · intro h3
      replace h3 := of_decide_eq_true h3
      refine Tr.skip ?_
      refine End.nxt ?_
      refine Tr.seq ?_
      refine Tr.blk ?_
      refine Tr.rg ?_
      refine TrL.op (ok_move rfl (fun _ => rfl)) rfl rfl ?_
      refine TrL.op (ok_move rfl (fun _ => rfl)) rfl rfl ?_
      first | refine TrL.op (ok_idxEN rfl (fun _ => rfl) rfl (fun _ => rfl) (fun _ => by omega)) rfl rfl ?_ | refine TrL.op (ok_idxE rfl (fun _ => rfl) rfl (fun _ => rfl) (fun _ => by omega)) rfl rfl ?_
      refine TrL.stE rfl rfl rfl rfl rfl ?_
      refine TrL.fin ?_
      refine End.blk ?_
      refine End.nxt ?_
      refine Tr.rg ?_
      refine TrL.op (ok_move rfl (fun _ => rfl)) rfl rfl ?_
      refine TrL.op (ok_add rfl (fun _ => rfl) rfl (fun _ => rfl) (fun _ => by omega)) rfl rfl ?_
      refine TrL.op (ok_assign rfl (fun _ => rfl)) rfl rfl ?_
      refine TrL.fin ?_
      exact End.lp (k + 1) (by first | rfl | omega | (simp; done) | (simp; omega) | assumption) (by omega) (Ent.mk (.i rfl (by first | rfl | omega | (simp; done) | (simp; omega) | assumption) <| .k rfl rfl <| .k rfl rfl <| .k rfl rfl <| .k rfl rfl <| .nil) (.a (by rw [← fillTo_succ]) (by first | rfl | omega | (simp; done) | (simp; omega) | assumption) <| .k rfl <| .k rfl <| .nil) rfl)
    · intro h3
      replace h3 := Int.not_lt.1 (of_decide_eq_false h3)
      refine Tr.exit ?_
      refine Exs.thn ?_
      refine Exs.thn ?_
      refine Exs.here ?_
      exact End.cut (k) (by omega) (Ent.mk (.i rfl (by first | rfl | omega | (simp; done) | (simp; omega) | assumption) <| .k rfl rfl <| .k rfl rfl <| .k rfl rfl <| .k rfl rfl <| .nil) (.a (by first | rfl | omega | (simp; done) | (simp; omega) | assumption) (by first | rfl | omega | (simp; done) | (simp; omega) | assumption) <| .k rfl <| .k rfl <| .nil) rfl)
  · rintro _ rfl
    refine End.norm (S' := [⟨9, true, _, _⟩, ⟨2, true, _, _⟩, ⟨3, true, _, _⟩, ⟨4, true, _, _⟩, ⟨8, true, _, _⟩]) (M' := [⟨14, _, _⟩, ⟨3, _, _⟩, ⟨4, _, _⟩]) rfl rfl ?_
    refine End.nxt ?_
    refine Tr.seq ?_
    refine Tr.rg ?_
    refine TrL.op (ok_move rfl (fun _ => rfl)) rfl rfl ?_
    refine TrL.op (ok_move rfl (fun _ => rfl)) rfl rfl ?_
    first | refine TrL.op (ok_idxEN rfl (fun _ => rfl) rfl (fun _ => rfl) (fun _ => by omega)) rfl rfl ?_ | refine TrL.op (ok_idxE rfl (fun _ => rfl) rfl (fun _ => rfl) (fun _ => by omega)) rfl rfl ?_
    refine TrL.stE rfl rfl rfl rfl rfl ?_
    refine TrL.fin ?_
    refine End.nxt ?_
    refine Tr.seq ?_
    refine Tr.seq ?_
    refine Tr.rg ?_
    refine TrL.op (ok_assign rfl (fun _ => rfl)) rfl rfl ?_
    refine TrL.fin ?_
    refine End.nxt ?_
    refine Tr.for1 (σ := Nat) [⟨3, true, _, _⟩, ⟨4, true, _, _⟩, ⟨8, true, _, _⟩] [⟨3, _, _⟩, ⟨4, _, _⟩] (fun r => [⟨10, true, [], kI (r : Int)⟩]) (fun r => [⟨14, [], cArr false 3 eI (mtF a b s r) a.1.length⟩]) (fun r => r ≤ a.1.length) (fun r => r = a.1.length) (fun r => a.1.length - r) (0) (Nat.zero_le _) (Ent.mk (.i rfl (by first | rfl | omega | (simp; done) | (simp; omega) | assumption) <| .k rfl rfl <| .k rfl rfl <| .k rfl rfl <| .nil) (.a (by rw [mt_fill]; rfl) (by first | rfl | omega | (simp; done) | (simp; omega) | assumption) <| .k rfl <| .k rfl <| .nil) rfl) ?_ ?_
    · intro r hR1
      refine Tr.norm (S' := [⟨10, true, _, _⟩, ⟨3, true, _, _⟩, ⟨4, true, _, _⟩, ⟨8, true, _, _⟩]) (M' := [⟨14, _, _⟩, ⟨3, _, _⟩, ⟨4, _, _⟩]) rfl rfl ?_
      have hmr := MtSt.all va vb hs (r := r)
      refine Tr.seq ?_
      refine Tr.seq ?_
      refine Tr.rg ?_
      refine TrL.op (ok_move rfl (fun _ => rfl)) rfl rfl ?_
      refine TrL.op (ok_ldBS rfl (fun _ => rfl)) rfl rfl ?_
      refine TrL.op (ok_call (fun hp => ct_rSize _) (.s rfl (fun _ => rfl) rfl <| .nil)) rfl rfl ?_
      refine TrL.op (ok_lss rfl (fun _ => rfl) rfl (fun _ => rfl)) rfl rfl ?_
      refine TrL.fin ?_
      refine End.nxt ?_
      refine Tr.cnd rfl ?_ ?_
      · intro h8
        replace h8 := of_decide_eq_true h8
        refine Tr.skip ?_
        refine End.nxt ?_
        refine Tr.seq ?_
        refine Tr.blk ?_
        refine Tr.seq ?_
        refine Tr.rg ?_
        refine TrL.op (ok_assign rfl (fun _ => rfl)) rfl rfl ?_
        refine TrL.fin ?_
        refine End.nxt ?_
        refine Tr.for1 (σ := Nat) [⟨3, true, _, _⟩, ⟨4, true, _, _⟩, ⟨8, true, _, _⟩, ⟨10, true, _, _⟩] [⟨3, _, _⟩, ⟨4, _, _⟩] (fun x => [⟨11, true, [], kI (x : Int)⟩]) (fun x => [⟨14, [], cArr false 3 eI (mtTo a b (mtF a b s r) x) a.1.length⟩]) (fun x => x ≤ a.1.length) (fun x => x = a.1.length) (fun x => a.1.length - x) (0) (Nat.zero_le _) (Ent.mk (.i rfl (by first | rfl | omega | (simp; done) | (simp; omega) | assumption) <| .k rfl rfl <| .k rfl rfl <| .k rfl rfl <| .k rfl rfl <| .nil) (.a (by rfl) (by first | rfl | omega | (simp; done) | (simp; omega) | assumption) <| .k rfl <| .k rfl <| .nil) rfl) ?_ ?_
        · intro x hR2
          refine Tr.norm (S' := [⟨11, true, _, _⟩, ⟨3, true, _, _⟩, ⟨4, true, _, _⟩, ⟨8, true, _, _⟩, ⟨10, true, _, _⟩]) (M' := [⟨14, _, _⟩, ⟨3, _, _⟩, ⟨4, _, _⟩]) rfl rfl ?_
          have hmx := fun h => hmr.to va vb (x := x) h
          have hml := fun h => (hmx h).len
          refine Tr.seq ?_
          refine Tr.seq ?_
          refine Tr.rg ?_
          refine TrL.op (ok_move rfl (fun _ => rfl)) rfl rfl ?_
          refine TrL.op (ok_ldBS rfl (fun _ => rfl)) rfl rfl ?_
          refine TrL.op (ok_call (fun hp => ct_rSize _) (.s rfl (fun _ => rfl) rfl <| .nil)) rfl rfl ?_
          refine TrL.op (ok_lss rfl (fun _ => rfl) rfl (fun _ => rfl)) rfl rfl ?_
          refine TrL.fin ?_
          refine End.nxt ?_
          refine Tr.cnd rfl ?_ ?_
          · intro h11
            replace h11 := of_decide_eq_true h11
            have hml2 := hml (by omega)
            have a1 := va.ri (i := x) (by omega)
            have a2 := va.ui (i := x) (by omega)
            refine Tr.skip ?_
            refine End.nxt ?_
            refine Tr.seq ?_
            refine Tr.blk ?_
            refine Tr.seq ?_
            refine Tr.rg ?_
            refine TrL.op (ok_move rfl (fun _ => rfl)) rfl rfl ?_
            refine TrL.op (ok_move rfl (fun _ => rfl)) rfl rfl ?_
            first | refine TrL.op (ok_idxEN rfl (fun _ => rfl) rfl (fun _ => rfl) (fun _ => by omega)) rfl rfl ?_ | refine TrL.op (ok_idxE rfl (fun _ => rfl) rfl (fun _ => rfl) (fun _ => by omega)) rfl rfl ?_
            refine TrL.op (ok_ldE rfl (fun _ => rfl) rfl rfl rfl) rfl rfl ?_
            refine TrL.op (ok_geq rfl (fun _ => rfl) rfl (fun _ => rfl)) rfl rfl ?_
            refine TrL.fin ?_
            refine End.nxt ?_
            refine Tr.cnd rfl ?_ ?_
            · intro h13
              replace h13 := of_decide_eq_true h13
              have hq : Sq b.1.length (nth (mtTo a b (mtF a b s r) x) x) := (by rcases (hmx (by omega)).rng x (Sq.nat (by omega)) with e | e; simp only [ap, Int.toNat_natCast] at e; omega; simpa [ap] using e)
              have hq0 := hq.1
              have hq1 := hq.2
              refine Tr.drawS 29 14 mixed (by kernel_rfl) ?_
              refine RunS.opA (ok_move rfl (fun _ => rfl)) (by kernel_rfl) rfl rfl ?_
              refine RunS.opA (ok_fldO rfl (fun _ => rfl)) (by kernel_rfl) rfl rfl ?_
              refine RunS.opA (ok_ldB rfl (fun _ => rfl) rfl) (by kernel_rfl) rfl rfl ?_
              refine RunS.opA (ok_move rfl (fun _ => rfl)) (by kernel_rfl) rfl rfl ?_
              first | refine RunS.opA (ok_idxN rfl (fun _ => rfl) rfl (fun _ => rfl) rfl (fun _ => by omega)) (by kernel_rfl) rfl rfl ?_ | refine RunS.opA (ok_idxP rfl (fun _ => rfl) rfl (fun _ => rfl) rfl (fun _ => by omega)) (by kernel_rfl) rfl rfl ?_
              refine RunS.opA (ok_ldP rfl (fun _ => rfl) rfl) (by kernel_rfl) rfl rfl ?_
              refine RunS.op (ok_move rfl (fun _ => rfl)) rfl rfl ?_
              refine RunS.opA (ok_fldO rfl (fun _ => rfl)) (by kernel_rfl) rfl rfl ?_
              refine RunS.opA (ok_ldB rfl (fun _ => rfl) rfl) (by kernel_rfl) rfl rfl ?_
              refine RunS.opA (ok_move rfl (fun _ => rfl)) (by kernel_rfl) rfl rfl ?_
              first | refine RunS.opA (ok_idxN rfl (fun _ => rfl) rfl (fun _ => rfl) rfl (fun _ => by omega)) (by kernel_rfl) rfl rfl ?_ | refine RunS.opA (ok_idxP rfl (fun _ => rfl) rfl (fun _ => rfl) rfl (fun _ => by omega)) (by kernel_rfl) rfl rfl ?_
              refine RunS.opA (ok_ldP rfl (fun _ => rfl) rfl) (by kernel_rfl) rfl rfl ?_
              refine RunS.opA (ok_fldO rfl (fun _ => rfl)) (by kernel_rfl) rfl rfl ?_
              refine RunS.opA (ok_ldB rfl (fun _ => rfl) rfl) (by kernel_rfl) rfl rfl ?_
              refine RunS.opA (ok_move rfl (fun _ => rfl)) (by kernel_rfl) rfl rfl ?_
              refine RunS.opA (ok_move rfl (fun _ => rfl)) (by kernel_rfl) rfl rfl ?_
              first | refine RunS.opA (ok_idxEN rfl (fun _ => rfl) rfl (fun _ => rfl) (fun _ => by omega)) (by kernel_rfl) rfl rfl ?_ | refine RunS.opA (ok_idxE rfl (fun _ => rfl) rfl (fun _ => rfl) (fun _ => by omega)) (by kernel_rfl) rfl rfl ?_
              refine RunS.opA (ok_ldE rfl (fun _ => rfl) rfl rfl rfl) (by kernel_rfl) rfl rfl ?_
              first | refine RunS.opA (ok_idxN rfl (fun _ => rfl) rfl (fun _ => rfl) rfl (fun _ => by omega)) (by kernel_rfl) rfl rfl ?_ | refine RunS.opA (ok_idxP rfl (fun _ => rfl) rfl (fun _ => rfl) rfl (fun _ => by omega)) (by kernel_rfl) rfl rfl ?_
              refine RunS.opA (ok_ldP rfl (fun _ => rfl) rfl) (by kernel_rfl) rfl rfl ?_
              refine RunS.opA (ok_fldO rfl (fun _ => rfl)) (by kernel_rfl) rfl rfl ?_
              refine RunS.opA (ok_ldB rfl (fun _ => rfl) rfl) (by kernel_rfl) rfl rfl ?_
              refine RunS.opA (ok_move rfl (fun _ => rfl)) (by kernel_rfl) rfl rfl ?_
              refine RunS.opA (ok_move rfl (fun _ => rfl)) (by kernel_rfl) rfl rfl ?_
              first | refine RunS.opA (ok_idxEN rfl (fun _ => rfl) rfl (fun _ => rfl) (fun _ => by omega)) (by kernel_rfl) rfl rfl ?_ | refine RunS.opA (ok_idxE rfl (fun _ => rfl) rfl (fun _ => rfl) (fun _ => by omega)) (by kernel_rfl) rfl rfl ?_
              refine RunS.opA (ok_ldE rfl (fun _ => rfl) rfl rfl rfl) (by kernel_rfl) rfl rfl ?_
              first | refine RunS.opA (ok_idxN rfl (fun _ => rfl) rfl (fun _ => rfl) rfl (fun _ => by omega)) (by kernel_rfl) rfl rfl ?_ | refine RunS.opA (ok_idxP rfl (fun _ => rfl) rfl (fun _ => rfl) rfl (fun _ => by omega)) (by kernel_rfl) rfl rfl ?_
              refine RunS.opA (ok_ldP rfl (fun _ => rfl) rfl) (by kernel_rfl) rfl rfl ?_
              first | refine RunS.opA (ok_idxEN rfl (fun _ => rfl) rfl (fun _ => rfl) (fun _ => by omega)) (by kernel_rfl) rfl rfl ?_ | refine RunS.opA (ok_idxE rfl (fun _ => rfl) rfl (fun _ => rfl) (fun _ => by omega)) (by kernel_rfl) rfl rfl ?_
              refine RunS.z (st_E rfl rfl rfl rfl rfl) rfl rfl rfl ?_
              first | refine TrL.op (ok_idxEN rfl (fun _ => rfl) rfl (fun _ => rfl) (fun _ => by omega)) rfl rfl ?_ | refine TrL.op (ok_idxE rfl (fun _ => rfl) rfl (fun _ => rfl) (fun _ => by omega)) rfl rfl ?_
              refine TrL.stE rfl rfl rfl rfl rfl ?_
              refine TrL.fin ?_
              refine End.blk ?_
              refine End.nxt ?_
              refine Tr.rg ?_
              refine TrL.op (ok_move rfl (fun _ => rfl)) rfl rfl ?_
              refine TrL.op (ok_add rfl (fun _ => rfl) rfl (fun _ => rfl) (fun _ => by omega)) rfl rfl ?_
              refine TrL.op (ok_assign rfl (fun _ => rfl)) rfl rfl ?_
              refine TrL.fin ?_
              exact End.lp (x + 1) (by first | rfl | omega | (simp; done) | (simp; omega) | assumption) (by omega) (Ent.mk (.i rfl (by first | rfl | omega | (simp; done) | (simp; omega) | assumption) <| .k rfl rfl <| .k rfl rfl <| .k rfl rfl <| .k rfl rfl <| .nil) (.a (by rw [mtTo, mtStep, if_pos h13]; rfl) (by first | rfl | omega | (simp; done) | (simp; omega) | assumption) <| .k rfl <| .k rfl <| .nil) rfl)
            · intro h13
              replace h13 := Int.not_le.1 (of_decide_eq_false h13)
              refine Tr.skip ?_
              refine End.blk ?_
              refine End.nxt ?_
              refine Tr.rg ?_
              refine TrL.op (ok_move rfl (fun _ => rfl)) rfl rfl ?_
              refine TrL.op (ok_add rfl (fun _ => rfl) rfl (fun _ => rfl) (fun _ => by omega)) rfl rfl ?_
              refine TrL.op (ok_assign rfl (fun _ => rfl)) rfl rfl ?_
              refine TrL.fin ?_
              exact End.lp (x + 1) (by first | rfl | omega | (simp; done) | (simp; omega) | assumption) (by omega) (Ent.mk (.i rfl (by first | rfl | omega | (simp; done) | (simp; omega) | assumption) <| .k rfl rfl <| .k rfl rfl <| .k rfl rfl <| .k rfl rfl <| .nil) (.a (by rw [mtTo, mtStep, if_neg (by omega)]) (by first | rfl | omega | (simp; done) | (simp; omega) | assumption) <| .k rfl <| .k rfl <| .nil) rfl)
          · intro h11
            replace h11 := Int.not_lt.1 (of_decide_eq_false h11)
            refine Tr.exit ?_
            refine Exs.thn ?_
            refine Exs.thn ?_
            refine Exs.here ?_
            exact End.cut (x) (by omega) (Ent.mk (.i rfl (by first | rfl | omega | (simp; done) | (simp; omega) | assumption) <| .k rfl rfl <| .k rfl rfl <| .k rfl rfl <| .k rfl rfl <| .nil) (.a (by first | rfl | omega | (simp; done) | (simp; omega) | assumption) (by first | rfl | omega | (simp; done) | (simp; omega) | assumption) <| .k rfl <| .k rfl <| .nil) rfl)
        · rintro _ rfl
          refine End.norm (S' := [⟨11, true, _, _⟩, ⟨3, true, _, _⟩, ⟨4, true, _, _⟩, ⟨8, true, _, _⟩, ⟨10, true, _, _⟩]) (M' := [⟨14, _, _⟩, ⟨3, _, _⟩, ⟨4, _, _⟩]) rfl rfl ?_
          refine End.blk ?_
          refine End.nxt ?_
          refine Tr.rg ?_
          refine TrL.op (ok_move rfl (fun _ => rfl)) rfl rfl ?_
          refine TrL.op (ok_add rfl (fun _ => rfl) rfl (fun _ => rfl) (fun _ => by omega)) rfl rfl ?_
          refine TrL.op (ok_assign rfl (fun _ => rfl)) rfl rfl ?_
          refine TrL.fin ?_
          exact End.lp (r + 1) (by first | rfl | omega | (simp; done) | (simp; omega) | assumption) (by omega) (Ent.mk (.i rfl (by first | rfl | omega | (simp; done) | (simp; omega) | assumption) <| .k rfl rfl <| .k rfl rfl <| .k rfl rfl <| .nil) (.a (by rfl) (by first | rfl | omega | (simp; done) | (simp; omega) | assumption) <| .k rfl <| .k rfl <| .nil) rfl)
      · intro h8
        replace h8 := Int.not_lt.1 (of_decide_eq_false h8)
        refine Tr.exit ?_
        refine Exs.thn ?_
        refine Exs.thn ?_
        refine Exs.here ?_
        exact End.cut (r) (by omega) (Ent.mk (.i rfl (by first | rfl | omega | (simp; done) | (simp; omega) | assumption) <| .k rfl rfl <| .k rfl rfl <| .k rfl rfl <| .nil) (.a (by first | rfl | omega | (simp; done) | (simp; omega) | assumption) (by first | rfl | omega | (simp; done) | (simp; omega) | assumption) <| .k rfl <| .k rfl <| .nil) rfl)
    · rintro _ rfl
      refine End.norm (S' := [⟨10, true, _, _⟩, ⟨3, true, _, _⟩, ⟨4, true, _, _⟩, ⟨8, true, _, _⟩]) (M' := [⟨14, _, _⟩, ⟨3, _, _⟩, ⟨4, _, _⟩]) rfl rfl ?_
      have hmr := MtSt.all va vb hs (r := a.1.length)
      have hsp := mtF_spec va ca vb hs
      refine End.nxt ?_
      refine Tr.seq ?_
      refine Tr.rg ?_
      refine TrL.op (ok_move rfl (fun _ => rfl)) rfl rfl ?_
      refine TrL.op (ok_ldBS rfl (fun _ => rfl)) rfl rfl ?_
      refine TrL.op (ok_ldBS rfl (fun _ => rfl)) rfl rfl ?_
      refine TrL.op (ok_move rfl (fun _ => rfl)) rfl rfl ?_
      refine TrL.frz 14 [8, 74, 77] ⟨rfl, rfl, rfl, trivial⟩ (by simp only [lenMax]; omega) rfl ?_
      refine TrL.norm (S' := [⟨_, _, _, _⟩, ⟨_, _, _, _⟩, ⟨_, _, _, _⟩, ⟨_, _, _, _⟩, ⟨_, _, _, _⟩, ⟨_, _, _, _⟩, ⟨_, _, _, _⟩, ⟨_, _, _, _⟩, ⟨_, _, _, _⟩, ⟨_, _, _, _⟩, ⟨_, _, _, _⟩]) rfl rfl ?_
      refine TrL.op (ok_call (fun hp => ct_rIsMap _ _ _ va vb hmr.len hsp.1) (.s rfl (fun _ => rfl) rfl <| .s rfl (fun _ => rfl) rfl <| .a rfl (fun _ => rfl) <| .nil)) rfl rfl ?_
      refine TrL.op (ok_assign rfl (fun _ => rfl)) rfl rfl ?_
      refine TrL.op (ok_assign rfl (fun _ => rfl)) rfl rfl ?_
      refine TrL.fin ?_
      refine End.nxt ?_
      refine Tr.ret ?_
      exact Rts.res (fn := Try.f101) (ts := [6, 7]) rfl rfl (.r rfl (by first | rfl | omega | (simp; done) | (simp; omega) | assumption) <| .b rfl (by first | rfl | omega | (simp; done) | (simp; omega) | assumption) <| .nil)

set_option maxRecDepth 100000 in
theorem ct_rMaps (a b : Ori) (va : Valid a) (ca : Conn a) (vb : Valid b) : Ct Try.prog 55 [kRd eO a, kRd eO b] (kRd (eL (eL eI)) (mapsL a b)) := by
  have hv2 := vb.le
  refine Ct.mk Try.func55 rfl Try.ntmps55 rfl (fun w J => ?_)
  refine Tr.seq ?_
  refine Tr.rg ?_
  refine TrL.new (ok_box 2 rfl (fun _ => rfl) rfl) rfl rfl rfl rfl ?_
  refine TrL.new (ok_box 3 rfl (fun _ => rfl) rfl) rfl rfl rfl rfl ?_
  refine TrL.op (ok_assign rfl (fun _ => rfl)) rfl rfl ?_
  refine TrL.fin ?_
  refine End.nxt ?_
  refine Tr.seq ?_
  refine Tr.rg ?_
  refine TrL.op (ok_assign rfl (fun _ => rfl)) rfl rfl ?_
  refine TrL.fin ?_
  refine End.nxt ?_
  refine Tr.seq ?_
  refine Tr.seq ?_
  refine Tr.rg ?_
  refine TrL.op (ok_assign rfl (fun _ => rfl)) rfl rfl ?_
  refine TrL.fin ?_
  refine End.nxt ?_
  refine Tr.grow (s := 5) rfl rfl 5 rfl 22 (eL eI) rfl ?_
  refine Tr.for1 (σ := Nat) [⟨2, true, _, _⟩, ⟨3, true, _, _⟩] [⟨2, _, _⟩, ⟨3, _, _⟩] (fun k => [⟨5, true, [5], kOsl 5 (mapsTo a b k).length⟩, ⟨6, true, [], kI (k : Int)⟩]) (fun k => [⟨5, [], cArr true 22 (eL eI) (mapsTo a b k) (mapsTo a b k).length⟩]) (fun k => k ≤ b.1.length) (fun k => k = b.1.length) (fun k => b.1.length - k) (0) (Nat.zero_le _) (Ent.mk (.o rfl (by first | rfl | omega | (simp; done) | (simp; omega) | assumption) rfl <| .i rfl (by first | rfl | omega | (simp; done) | (simp; omega) | assumption) <| .k rfl rfl <| .k rfl rfl <| .nil) (.a (by rfl) (by first | rfl | omega | (simp; done) | (simp; omega) | assumption) <| .k rfl <| .k rfl <| .nil) rfl) ?_ ?_
  · intro k hR0
    refine Tr.norm (S' := [⟨5, true, _, _⟩, ⟨6, true, _, _⟩, ⟨2, true, _, _⟩, ⟨3, true, _, _⟩]) (M' := [⟨5, _, _⟩, ⟨2, _, _⟩, ⟨3, _, _⟩]) rfl rfl ?_
    have hml := mapsTo_len (a := a) (b := b) (k := k)
    refine Tr.seq ?_
    refine Tr.seq ?_
    refine Tr.rg ?_
    refine TrL.op (ok_move rfl (fun _ => rfl)) rfl rfl ?_
    refine TrL.op (ok_ldBS rfl (fun _ => rfl)) rfl rfl ?_
    refine TrL.op (ok_call (fun hp => ct_rSize _) (.s rfl (fun _ => rfl) rfl <| .nil)) rfl rfl ?_
    refine TrL.op (ok_lss rfl (fun _ => rfl) rfl (fun _ => rfl)) rfl rfl ?_
    refine TrL.fin ?_
    refine End.nxt ?_
    refine Tr.cnd rfl ?_ ?_
    · intro h3
      replace h3 := of_decide_eq_true h3
      have hks : Sq b.1.length (k : Int) := Sq.nat (by omega)
      have hsp := (mtF_spec va ca vb hks).2
      refine Tr.skip ?_
      refine End.nxt ?_
      refine Tr.seq ?_
      refine Tr.blk ?_
      refine Tr.seq ?_
      refine Tr.rg ?_
      refine TrL.op (ok_ldBS rfl (fun _ => rfl)) rfl rfl ?_
      refine TrL.op (ok_ldBS rfl (fun _ => rfl)) rfl rfl ?_
      refine TrL.op (ok_move rfl (fun _ => rfl)) rfl rfl ?_
      refine TrL.op (ok_call (fun hp => ct_rMapTo _ _ _ va ca vb hks) (.s rfl (fun _ => rfl) rfl <| .s rfl (fun _ => rfl) rfl <| .a rfl (fun _ => rfl) <| .nil)) rfl rfl ?_
      refine TrL.op (ok_move rfl (fun _ => rfl)) rfl rfl ?_
      refine TrL.op (ok_ext rfl (fun _ => rfl) rfl) rfl rfl ?_
      refine TrL.op (ok_ext rfl (fun _ => rfl) rfl) rfl rfl ?_
      refine TrL.op (ok_assign rfl (fun _ => rfl)) rfl rfl ?_
      refine TrL.op (ok_assign rfl (fun _ => rfl)) rfl rfl ?_
      refine TrL.fin ?_
      refine End.nxt ?_
      refine Tr.seq ?_
      refine Tr.rg ?_
      refine TrL.op (ok_move rfl (fun _ => rfl)) rfl rfl ?_
      refine TrL.fin ?_
      refine End.nxt ?_
      refine Tr.cnd rfl ?_ ?_
      · intro h6
        have hsm := hsp.trans (if_pos h6)
        refine Tr.rg ?_
        refine TrL.op (ok_move rfl (fun _ => rfl)) rfl rfl ?_
        refine TrL.op (ok_move rfl (fun _ => rfl)) rfl rfl ?_
        refine TrL.new (ok_bsl (eL eI) 25 (fun hp => .cons rfl <| .nil) rfl rfl rfl rfl) rfl rfl rfl rfl ?_
        refine TrL.app rfl rfl rfl rfl rfl rfl rfl rfl (by first | omega | (simp only [List.length_cons, List.length_nil]; omega)) (by first | omega | (simp only [List.length_cons, List.length_nil]; omega)) ?_
        refine TrL.norm (S' := [⟨_, _, _, _⟩, ⟨_, _, _, _⟩, ⟨_, _, _, _⟩, ⟨_, _, _, _⟩, ⟨_, _, _, _⟩, ⟨_, _, _, _⟩, ⟨_, _, _, _⟩, ⟨_, _, _, _⟩, ⟨_, _, _, _⟩, ⟨_, _, _, _⟩, ⟨_, _, _, _⟩, ⟨_, _, _, _⟩, ⟨_, _, _, _⟩, ⟨_, _, _, _⟩, ⟨_, _, _, _⟩, ⟨_, _, _, _⟩, ⟨_, _, _, _⟩, ⟨_, _, _, _⟩, ⟨_, _, _, _⟩, ⟨_, _, _, _⟩, ⟨_, _, _, _⟩, ⟨_, _, _, _⟩]) rfl rfl ?_
        refine TrL.op (ok_assign rfl (fun _ => rfl)) rfl rfl ?_
        refine TrL.fin ?_
        refine End.blk ?_
        refine End.nxt ?_
        refine Tr.rg ?_
        refine TrL.op (ok_move rfl (fun _ => rfl)) rfl rfl ?_
        refine TrL.op (ok_add rfl (fun _ => rfl) rfl (fun _ => rfl) (fun _ => by omega)) rfl rfl ?_
        refine TrL.op (ok_assign rfl (fun _ => rfl)) rfl rfl ?_
        refine TrL.fin ?_
        exact End.lp (k + 1) (by first | rfl | omega | (simp; done) | (simp; omega) | assumption) (by omega) (Ent.mk (.o rfl (by rw [mapsTo_some hsm, List.length_append]) rfl <| .i rfl (by first | rfl | omega | (simp; done) | (simp; omega) | assumption) <| .k rfl rfl <| .k rfl rfl <| .nil) (.a (by rw [mapsTo_some hsm]) (by rw [mapsTo_some hsm, List.length_append]) <| .k rfl <| .k rfl <| .nil) rfl)
      · intro h6
        have hsm := hsp.trans (if_neg (by rw [h6]; simp))
        refine Tr.skip ?_
        refine End.blk ?_
        refine End.nxt ?_
        refine Tr.rg ?_
        refine TrL.op (ok_move rfl (fun _ => rfl)) rfl rfl ?_
        refine TrL.op (ok_add rfl (fun _ => rfl) rfl (fun _ => rfl) (fun _ => by omega)) rfl rfl ?_
        refine TrL.op (ok_assign rfl (fun _ => rfl)) rfl rfl ?_
        refine TrL.fin ?_
        exact End.lp (k + 1) (by first | rfl | omega | (simp; done) | (simp; omega) | assumption) (by omega) (Ent.mk (.o rfl (by rw [mapsTo_none hsm]) rfl <| .i rfl (by first | rfl | omega | (simp; done) | (simp; omega) | assumption) <| .k rfl rfl <| .k rfl rfl <| .nil) (.a (by rw [mapsTo_none hsm]) (by rw [mapsTo_none hsm]) <| .k rfl <| .k rfl <| .nil) rfl)
    · intro h3
      replace h3 := Int.not_lt.1 (of_decide_eq_false h3)
      refine Tr.exit ?_
      refine Exs.thn ?_
      refine Exs.thn ?_
      refine Exs.here ?_
      exact End.cut (k) (by omega) (Ent.mk (.o rfl (by first | rfl | omega | (simp; done) | (simp; omega) | assumption) rfl <| .i rfl (by first | rfl | omega | (simp; done) | (simp; omega) | assumption) <| .k rfl rfl <| .k rfl rfl <| .nil) (.a (by first | rfl | omega | (simp; done) | (simp; omega) | assumption) (by first | rfl | omega | (simp; done) | (simp; omega) | assumption) <| .k rfl <| .k rfl <| .nil) rfl)
  · rintro _ rfl
    refine End.norm (S' := [⟨5, true, _, _⟩, ⟨6, true, _, _⟩, ⟨2, true, _, _⟩, ⟨3, true, _, _⟩]) (M' := [⟨5, _, _⟩, ⟨2, _, _⟩, ⟨3, _, _⟩]) rfl rfl ?_
    have hml := mapsTo_len (a := a) (b := b) (k := b.1.length)
    refine End.nxt ?_
    refine Tr.seq ?_
    refine Tr.rg ?_
    refine TrL.op (ok_move rfl (fun _ => rfl)) rfl rfl ?_
    refine TrL.op (ok_assign rfl (fun _ => rfl)) rfl rfl ?_
    refine TrL.fin ?_
    refine End.nxt ?_
    refine Tr.frz 5 [4] ⟨rfl, trivial⟩ (by simp only [lenMax]; omega) rfl ?_
    refine Tr.ret ?_
    exact Rts.res1 (fn := Try.f55) rfl (.r rfl (by first | rfl | omega | (simp; done) | (simp; omega) | assumption) <| .nil)

set_option maxRecDepth 100000 in
theorem ct_ofirst (l : List (List Int)) : Ct Try.prog 99 [kRd (eL (eL eI)) l] (kTup [kRd (eL eI) (if l.length = 0 then [] else nth l 0), kI (if l.length = 0 then 11 else 0)]) := by
  refine Ct.mk Try.func99 rfl Try.ntmps99 rfl (fun w J => ?_)
  refine Tr.seq ?_
  refine Tr.rg ?_
  refine TrL.op (ok_assign rfl (fun _ => rfl)) rfl rfl ?_
  refine TrL.op (ok_assign rfl (fun _ => rfl)) rfl rfl ?_
  refine TrL.fin ?_
  refine End.nxt ?_
  refine Tr.seq ?_
  refine Tr.seq ?_
  refine Tr.rg ?_
  refine TrL.op (ok_move rfl (fun _ => rfl)) rfl rfl ?_
  refine TrL.op (ok_lenJ rfl (fun _ => rfl)) rfl rfl ?_
  refine TrL.op (ok_eql rfl (fun _ => rfl) rfl (fun _ => rfl)) rfl rfl ?_
  refine TrL.fin ?_
  refine End.nxt ?_
  refine Tr.cnd rfl ?_ ?_
  · intro h1
    replace h1 := of_decide_eq_true h1
    refine Tr.seq ?_
    refine Tr.rg ?_
    refine TrL.op (ok_assign rfl (fun _ => rfl)) rfl rfl ?_
    refine TrL.op (ok_assign rfl (fun _ => rfl)) rfl rfl ?_
    refine TrL.fin ?_
    refine End.nxt ?_
    refine Tr.ret ?_
    refine Rts.thn ?_
    exact Rts.res (fn := Try.f99) (ts := [2, 3]) rfl rfl (.n rfl (by rw [if_pos (by omega)]) <| .i rfl (by rw [if_pos (by omega)]) <| .nil)
  · intro h1
    replace h1 := of_decide_eq_false h1
    refine Tr.skip ?_
    refine End.nxt ?_
    refine Tr.seq ?_
    refine Tr.rg ?_
    refine TrL.op (ok_move rfl (fun _ => rfl)) rfl rfl ?_
    first | refine TrL.op (ok_idxN rfl (fun _ => rfl) rfl (fun _ => rfl) rfl (fun _ => by omega)) rfl rfl ?_ | refine TrL.op (ok_idxP rfl (fun _ => rfl) rfl (fun _ => rfl) rfl (fun _ => by omega)) rfl rfl ?_
    refine TrL.op (ok_ldP rfl (fun _ => rfl) rfl) rfl rfl ?_
    refine TrL.op (ok_assign rfl (fun _ => rfl)) rfl rfl ?_
    refine TrL.op (ok_assign rfl (fun _ => rfl)) rfl rfl ?_
    refine TrL.fin ?_
    refine End.nxt ?_
    refine Tr.ret ?_
    exact Rts.res (fn := Try.f99) (ts := [2, 3]) rfl rfl (.r rfl (by rw [if_neg (by omega)]; rfl) <| .i rfl (by rw [if_neg (by omega)]) <| .nil)

set_option maxRecDepth 100000 in
theorem ct_oCovering (a b : Ori) : Ct Try.prog 53 [kRd eO a, kRd eO b] (kTup [kRd (eL eI) (covL a b), kI (covE a b)]) := by
  refine Ct.mk Try.func53 rfl Try.ntmps53 rfl (fun w J => ?_)
  refine Tr.seq ?_
  refine Tr.rg ?_
  refine TrL.new (ok_box 2 rfl (fun _ => rfl) rfl) rfl rfl rfl rfl ?_
  refine TrL.new (ok_box 3 rfl (fun _ => rfl) rfl) rfl rfl rfl rfl ?_
  refine TrL.op (ok_assign rfl (fun _ => rfl)) rfl rfl ?_
  refine TrL.op (ok_assign rfl (fun _ => rfl)) rfl rfl ?_
  refine TrL.fin ?_
  refine End.nxt ?_
  refine Tr.seq ?_
  refine Tr.seq ?_
  refine Tr.rg ?_
  refine TrL.op (ok_ldBS rfl (fun _ => rfl)) rfl rfl ?_
  refine TrL.op (ok_ldBS rfl (fun _ => rfl)) rfl rfl ?_
  refine TrL.op (ok_bslJ eO (fun hp => .cons rfl <| .cons rfl <| .nil) rfl rfl rfl rfl) rfl rfl ?_
  refine TrL.op (ok_call (fun hp => ct_connected [a, b]) (.a rfl (fun _ => rfl) <| .nil)) rfl rfl ?_
  refine TrL.op (ok_assign rfl (fun _ => rfl)) rfl rfl ?_
  refine TrL.fin ?_
  refine End.nxt ?_
  refine Tr.seq ?_
  refine Tr.rg ?_
  refine TrL.op (ok_move rfl (fun _ => rfl)) rfl rfl ?_
  refine TrL.op (ok_neq rfl (fun _ => rfl) rfl (fun _ => rfl)) rfl rfl ?_
  refine TrL.fin ?_
  refine End.nxt ?_
  refine Tr.cnd rfl ?_ ?_
  · intro h2
    replace h2 := of_decide_eq_true h2
    rw [connE_two] at h2
    have hce : covE a b = chk2 a b := orE_l h2
    refine Tr.seq ?_
    refine Tr.rg ?_
    refine TrL.op (ok_move rfl (fun _ => rfl)) rfl rfl ?_
    refine TrL.op (ok_assign rfl (fun _ => rfl)) rfl rfl ?_
    refine TrL.op (ok_assign rfl (fun _ => rfl)) rfl rfl ?_
    refine TrL.fin ?_
    refine End.nxt ?_
    refine Tr.ret ?_
    refine Rts.thn ?_
    exact Rts.res (fn := Try.f53) (ts := [4, 5]) rfl rfl (.n rfl (by unfold covL; rw [hce, if_neg h2]) <| .i rfl (by rw [hce, connE_two]) <| .nil)
  · intro h2
    replace h2 := Classical.not_not.1 (of_decide_eq_false h2)
    rw [connE_two] at h2
    obtain ⟨va, ca, vb, cb⟩ := chk2_zero h2
    have hce : covE a b = if (mapsL a b).length = 0 then 11 else 0 := orE_r h2
    refine Tr.skip ?_
    refine End.nxt ?_
    refine Tr.seq ?_
    refine Tr.rg ?_
    refine TrL.op (ok_ldBS rfl (fun _ => rfl)) rfl rfl ?_
    refine TrL.op (ok_ldBS rfl (fun _ => rfl)) rfl rfl ?_
    refine TrL.op (ok_call (fun hp => ct_maps _ _ va ca vb) (.s rfl (fun _ => rfl) rfl <| .s rfl (fun _ => rfl) rfl <| .nil)) rfl rfl ?_
    refine TrL.op (ok_call (fun hp => ct_ofirst (mapsL a b)) (.a rfl (fun _ => rfl) <| .nil)) rfl rfl ?_
    refine TrL.op (ok_ext rfl (fun _ => rfl) rfl) rfl rfl ?_
    refine TrL.op (ok_ext rfl (fun _ => rfl) rfl) rfl rfl ?_
    refine TrL.op (ok_assign rfl (fun _ => rfl)) rfl rfl ?_
    refine TrL.op (ok_assign rfl (fun _ => rfl)) rfl rfl ?_
    refine TrL.fin ?_
    refine End.nxt ?_
    refine Tr.ret ?_
    exact Rts.res (fn := Try.f53) (ts := [4, 5]) rfl rfl (.r rfl (by unfold covL; rw [hce]; split <;> rfl) <| .i rfl (by rw [hce]) <| .nil)

set_option maxRecDepth 100000 in
theorem ct_oIso (a b : Ori) : Ct Try.prog 52 [kRd eO a, kRd eO b] (kTup [kRd (eL eI) (isoL a b), kI (isoE a b)]) := by
  refine Ct.mk Try.func52 rfl Try.ntmps52 rfl (fun w J => ?_)
  refine Tr.seq ?_
  refine Tr.rg ?_
  refine TrL.new (ok_box 2 rfl (fun _ => rfl) rfl) rfl rfl rfl rfl ?_
  refine TrL.new (ok_box 3 rfl (fun _ => rfl) rfl) rfl rfl rfl rfl ?_
  refine TrL.op (ok_assign rfl (fun _ => rfl)) rfl rfl ?_
  refine TrL.op (ok_assign rfl (fun _ => rfl)) rfl rfl ?_
  refine TrL.fin ?_
  refine End.nxt ?_
  refine Tr.seq ?_
  refine Tr.seq ?_
  refine Tr.rg ?_
  refine TrL.op (ok_ldBS rfl (fun _ => rfl)) rfl rfl ?_
  refine TrL.op (ok_ldBS rfl (fun _ => rfl)) rfl rfl ?_
  refine TrL.op (ok_bslJ eO (fun hp => .cons rfl <| .cons rfl <| .nil) rfl rfl rfl rfl) rfl rfl ?_
  refine TrL.op (ok_call (fun hp => ct_connected [a, b]) (.a rfl (fun _ => rfl) <| .nil)) rfl rfl ?_
  refine TrL.op (ok_assign rfl (fun _ => rfl)) rfl rfl ?_
  refine TrL.fin ?_
  refine End.nxt ?_
  refine Tr.seq ?_
  refine Tr.rg ?_
  refine TrL.op (ok_move rfl (fun _ => rfl)) rfl rfl ?_
  refine TrL.op (ok_neq rfl (fun _ => rfl) rfl (fun _ => rfl)) rfl rfl ?_
  refine TrL.fin ?_
  refine End.nxt ?_
  refine Tr.cnd rfl ?_ ?_
  · intro h2
    replace h2 := of_decide_eq_true h2
    rw [connE_two] at h2
    have hce : isoE a b = chk2 a b := orE_l h2
    refine Tr.seq ?_
    refine Tr.rg ?_
    refine TrL.op (ok_move rfl (fun _ => rfl)) rfl rfl ?_
    refine TrL.op (ok_assign rfl (fun _ => rfl)) rfl rfl ?_
    refine TrL.op (ok_assign rfl (fun _ => rfl)) rfl rfl ?_
    refine TrL.fin ?_
    refine End.nxt ?_
    refine Tr.ret ?_
    refine Rts.thn ?_
    exact Rts.res (fn := Try.f52) (ts := [4, 5]) rfl rfl (.n rfl (by unfold isoL; rw [hce, if_neg h2]) <| .i rfl (by rw [hce, connE_two]) <| .nil)
  · intro h2
    replace h2 := Classical.not_not.1 (of_decide_eq_false h2)
    rw [connE_two] at h2
    obtain ⟨va, ca, vb, cb⟩ := chk2_zero h2
    have hce : isoE a b = if a.1.length ≠ b.1.length ∨ (mapsL a b).length = 0 then 11 else 0 := orE_r h2
    refine Tr.skip ?_
    refine End.nxt ?_
    refine Tr.seq ?_
    refine Tr.seq ?_
    refine Tr.rg ?_
    refine TrL.op (ok_fldO rfl (fun _ => rfl)) rfl rfl ?_
    refine TrL.op (ok_ldB rfl (fun _ => rfl) rfl) rfl rfl ?_
    refine TrL.op (ok_lenJ rfl (fun _ => rfl)) rfl rfl ?_
    refine TrL.op (ok_fldO rfl (fun _ => rfl)) rfl rfl ?_
    refine TrL.op (ok_ldB rfl (fun _ => rfl) rfl) rfl rfl ?_
    refine TrL.op (ok_lenJ rfl (fun _ => rfl)) rfl rfl ?_
    refine TrL.op (ok_neq rfl (fun _ => rfl) rfl (fun _ => rfl)) rfl rfl ?_
    refine TrL.fin ?_
    refine End.nxt ?_
    refine Tr.cnd rfl ?_ ?_
    · intro h4
      replace h4 := of_decide_eq_true h4
      rw [if_pos (.inl (by omega))] at hce
      refine Tr.seq ?_
      refine Tr.rg ?_
      refine TrL.op (ok_assign rfl (fun _ => rfl)) rfl rfl ?_
      refine TrL.op (ok_assign rfl (fun _ => rfl)) rfl rfl ?_
      refine TrL.fin ?_
      refine End.nxt ?_
      refine Tr.ret ?_
      refine Rts.thn ?_
      exact Rts.res (fn := Try.f52) (ts := [4, 5]) rfl rfl (.n rfl (by unfold isoL; rw [hce]; rfl) <| .i rfl (by rw [hce]) <| .nil)
    · intro h4
      replace h4 := Classical.not_not.1 (of_decide_eq_false h4)
      have hsz : a.1.length = b.1.length := by omega
      simp only [hsz, ne_eq, not_true_eq_false, false_or] at hce
      refine Tr.skip ?_
      refine End.nxt ?_
      refine Tr.seq ?_
      refine Tr.rg ?_
      refine TrL.op (ok_ldBS rfl (fun _ => rfl)) rfl rfl ?_
      refine TrL.op (ok_ldBS rfl (fun _ => rfl)) rfl rfl ?_
      refine TrL.op (ok_call (fun hp => ct_maps _ _ va ca vb) (.s rfl (fun _ => rfl) rfl <| .s rfl (fun _ => rfl) rfl <| .nil)) rfl rfl ?_
      refine TrL.op (ok_call (fun hp => ct_ofirst (mapsL a b)) (.a rfl (fun _ => rfl) <| .nil)) rfl rfl ?_
      refine TrL.op (ok_ext rfl (fun _ => rfl) rfl) rfl rfl ?_
      refine TrL.op (ok_ext rfl (fun _ => rfl) rfl) rfl rfl ?_
      refine TrL.op (ok_assign rfl (fun _ => rfl)) rfl rfl ?_
      refine TrL.op (ok_assign rfl (fun _ => rfl)) rfl rfl ?_
      refine TrL.fin ?_
      refine End.nxt ?_
      refine Tr.ret ?_
      exact Rts.res (fn := Try.f52) (ts := [4, 5]) rfl rfl (.r rfl (by unfold isoL; rw [hce]; split <;> rfl) <| .i rfl (by rw [hce]) <| .nil)

set_option maxRecDepth 100000 in
theorem ct_OrigamiMaps (a b : Ori) : Ct Try.prog 10 [kRd eO a, kRd eO b] (kB true) := by
  refine Ct.mk Try.func10 rfl Try.ntmps10 rfl (fun w J => ?_)
  refine Tr.seq ?_
  refine Tr.rg ?_
  refine TrL.new (ok_box 2 rfl (fun _ => rfl) rfl) rfl rfl rfl rfl ?_
  refine TrL.new (ok_box 3 rfl (fun _ => rfl) rfl) rfl rfl rfl rfl ?_
  refine TrL.op (ok_assign rfl (fun _ => rfl)) rfl rfl ?_
  refine TrL.fin ?_
  refine End.nxt ?_
  refine Tr.seq ?_
  refine Tr.seq ?_
  refine Tr.rg ?_
  refine TrL.op (ok_call (fun hp => ct_awake) (.nil)) rfl rfl ?_
  refine TrL.op (ok_not rfl (fun _ => rfl)) rfl rfl ?_
  refine TrL.fin ?_
  refine End.nxt ?_
  refine Tr.cnd rfl ?_ ?_
  · intro h1
    simp at h1
  · intro h1
    refine Tr.skip ?_
    refine End.nxt ?_
    refine Tr.seq ?_
    refine Tr.seq ?_
    refine Tr.rg ?_
    refine TrL.op (ok_ldBS rfl (fun _ => rfl)) rfl rfl ?_
    refine TrL.op (ok_call (fun hp => ct_Few _) (.s rfl (fun _ => rfl) rfl <| .nil)) rfl rfl ?_
    refine TrL.op (ok_not rfl (fun _ => rfl)) rfl rfl ?_
    refine TrL.op (ok_move rfl (fun _ => rfl)) rfl rfl ?_
    refine TrL.gd rfl rfl rfl (ok_ldBS rfl (fun _ => rfl)) rfl rfl ?_
    refine TrL.gd rfl rfl rfl (ok_call (fun hp => ct_Few _) (.s rfl id rfl <| .nil)) rfl rfl ?_
    refine TrL.gd rfl rfl rfl (ok_not rfl id) rfl rfl ?_
    refine TrL.op (ok_or rfl (fun _ => rfl) rfl (fun hp h => gdF2 ((fun _ => rfl) hp) h)) rfl rfl ?_
    refine TrL.fin ?_
    refine End.nxt ?_
    refine Tr.cnd rfl ?_ ?_
    · intro h3
      refine Tr.seq ?_
      refine Tr.rg ?_
      refine TrL.op (ok_assign rfl (fun _ => rfl)) rfl rfl ?_
      refine TrL.fin ?_
      refine End.nxt ?_
      refine Tr.ret ?_
      refine Rts.thn ?_
      exact Rts.res1 (fn := Try.f10) rfl (.b rfl (by rfl) <| .nil)
    · intro h3
      refine Tr.skip ?_
      refine End.nxt ?_
      refine Tr.seq ?_
      refine Tr.rg ?_
      refine TrL.op (ok_ldBS rfl (fun _ => rfl)) rfl rfl ?_
      refine TrL.op (ok_ldBS rfl (fun _ => rfl)) rfl rfl ?_
      refine TrL.op (ok_call (fun hp => ct_oIso _ _) (.s rfl (fun _ => rfl) rfl <| .s rfl (fun _ => rfl) rfl <| .nil)) rfl rfl ?_
      refine TrL.op (ok_move rfl (fun _ => rfl)) rfl rfl ?_
      refine TrL.op (ok_ext rfl (fun _ => rfl) rfl) rfl rfl ?_
      refine TrL.op (ok_ext rfl (fun _ => rfl) rfl) rfl rfl ?_
      refine TrL.op (ok_assign rfl (fun _ => rfl)) rfl rfl ?_
      refine TrL.op (ok_assign rfl (fun _ => rfl)) rfl rfl ?_
      refine TrL.fin ?_
      refine End.nxt ?_
      refine Tr.seq ?_
      refine Tr.rg ?_
      refine TrL.op (ok_ldBS rfl (fun _ => rfl)) rfl rfl ?_
      refine TrL.op (ok_ldBS rfl (fun _ => rfl)) rfl rfl ?_
      refine TrL.op (ok_call (fun hp => ct_oCovering _ _) (.s rfl (fun _ => rfl) rfl <| .s rfl (fun _ => rfl) rfl <| .nil)) rfl rfl ?_
      refine TrL.op (ok_move rfl (fun _ => rfl)) rfl rfl ?_
      refine TrL.op (ok_ext rfl (fun _ => rfl) rfl) rfl rfl ?_
      refine TrL.op (ok_ext rfl (fun _ => rfl) rfl) rfl rfl ?_
      refine TrL.op (ok_assign rfl (fun _ => rfl)) rfl rfl ?_
      refine TrL.op (ok_assign rfl (fun _ => rfl)) rfl rfl ?_
      refine TrL.fin ?_
      refine End.nxt ?_
      refine Tr.seq ?_
      refine Tr.seq ?_
      refine Tr.rg ?_
      refine TrL.op (ok_ldBS rfl (fun _ => rfl)) rfl rfl ?_
      refine TrL.op (ok_ldBS rfl (fun _ => rfl)) rfl rfl ?_
      refine TrL.op (ok_call (fun hp => ct_rCheckTwo _ _) (.s rfl (fun _ => rfl) rfl <| .s rfl (fun _ => rfl) rfl <| .nil)) rfl rfl ?_
      refine TrL.op (ok_assign rfl (fun _ => rfl)) rfl rfl ?_
      refine TrL.fin ?_
      refine End.nxt ?_
      refine Tr.seq ?_
      refine Tr.rg ?_
      refine TrL.op (ok_move rfl (fun _ => rfl)) rfl rfl ?_
      refine TrL.op (ok_neq rfl (fun _ => rfl) rfl (fun _ => rfl)) rfl rfl ?_
      refine TrL.fin ?_
      refine End.nxt ?_
      refine Tr.cnd rfl ?_ ?_
      · intro h8
        replace h8 := of_decide_eq_true h8
        have e1 : isoE a b = chk2 a b := orE_l h8
        have e2 : covE a b = chk2 a b := orE_l h8
        have l1 : isoL a b = [] := (by unfold isoL; rw [e1, if_neg h8])
        have l2 : covL a b = [] := (by unfold covL; rw [e2, if_neg h8])
        refine Tr.seq ?_
        refine Tr.rg ?_
        refine TrL.op (ok_move rfl (fun _ => rfl)) rfl rfl ?_
        refine TrL.op (ok_move rfl (fun _ => rfl)) rfl rfl ?_
        refine TrL.op (ok_eql rfl (fun _ => rfl) rfl (fun _ => rfl)) rfl rfl ?_
        refine TrL.op (ok_move rfl (fun _ => rfl)) rfl rfl ?_
        refine TrL.gd rfl rfl rfl (ok_move rfl (fun _ => rfl)) rfl rfl ?_
        refine TrL.gd rfl rfl rfl (ok_move rfl (fun _ => rfl)) rfl rfl ?_
        refine TrL.gd rfl rfl rfl (ok_eql rfl id rfl id) rfl rfl ?_
        refine TrL.op (ok_and rfl (fun _ => rfl) rfl (fun hp h => gdT2 ((fun _ => rfl) hp) h)) rfl rfl ?_
        refine TrL.op (ok_move rfl (fun _ => rfl)) rfl rfl ?_
        refine TrL.gd rfl rfl rfl (ok_move rfl (fun _ => rfl)) rfl rfl ?_
        refine TrL.gd rfl rfl rfl (ok_lenJ rfl id) rfl rfl ?_
        refine TrL.gd rfl rfl rfl (ok_eql rfl id rfl (fun _ => rfl)) rfl rfl ?_
        refine TrL.op (ok_and rfl (fun _ => rfl) rfl (fun hp h => gdT2 ((fun _ => rfl) hp) h)) rfl rfl ?_
        refine TrL.op (ok_move rfl (fun _ => rfl)) rfl rfl ?_
        refine TrL.gd rfl rfl rfl (ok_move rfl (fun _ => rfl)) rfl rfl ?_
        refine TrL.gd rfl rfl rfl (ok_lenJ rfl id) rfl rfl ?_
        refine TrL.gd rfl rfl rfl (ok_eql rfl id rfl (fun _ => rfl)) rfl rfl ?_
        refine TrL.op (ok_and rfl (fun _ => rfl) rfl (fun hp h => gdT2 ((fun _ => rfl) hp) h)) rfl rfl ?_
        refine TrL.op (ok_assign rfl (fun _ => rfl)) rfl rfl ?_
        refine TrL.fin ?_
        refine End.nxt ?_
        refine Tr.ret ?_
        refine Rts.thn ?_
        exact Rts.res1 (fn := Try.f10) rfl (.b rfl (by simp [e1, e2, l1, l2]) <| .nil)
      · intro h8
        replace h8 := Classical.not_not.1 (of_decide_eq_false h8)
        obtain ⟨va, ca, vb, cb⟩ := chk2_zero h8
        have e1 : isoE a b = if a.1.length ≠ b.1.length ∨ (mapsL a b).length = 0 then 11 else 0 := orE_r h8
        have e2 : covE a b = if (mapsL a b).length = 0 then 11 else 0 := orE_r h8
        refine Tr.skip ?_
        refine End.nxt ?_
        refine Tr.seq ?_
        refine Tr.rg ?_
        refine TrL.op (ok_ldBS rfl (fun _ => rfl)) rfl rfl ?_
        refine TrL.op (ok_ldBS rfl (fun _ => rfl)) rfl rfl ?_
        refine TrL.op (ok_call (fun hp => ct_rMaps _ _ va ca vb) (.s rfl (fun _ => rfl) rfl <| .s rfl (fun _ => rfl) rfl <| .nil)) rfl rfl ?_
        refine TrL.op (ok_assign rfl (fun _ => rfl)) rfl rfl ?_
        refine TrL.fin ?_
        refine End.nxt ?_
        refine Tr.seq ?_
        refine Tr.seq ?_
        refine Tr.rg ?_
        refine TrL.op (ok_move rfl (fun _ => rfl)) rfl rfl ?_
        refine TrL.op (ok_lenJ rfl (fun _ => rfl)) rfl rfl ?_
        refine TrL.op (ok_eql rfl (fun _ => rfl) rfl (fun _ => rfl)) rfl rfl ?_
        refine TrL.fin ?_
        refine End.nxt ?_
        refine Tr.cnd rfl ?_ ?_
        · intro h11
          replace h11 := of_decide_eq_true h11
          have hm0 : (mapsL a b).length = 0 := by omega
          rw [if_pos (.inr hm0)] at e1
          rw [if_pos hm0] at e2
          have l1 : isoL a b = [] := (by unfold isoL; rw [e1]; rfl)
          have l2 : covL a b = [] := (by unfold covL; rw [e2]; rfl)
          refine Tr.seq ?_
          refine Tr.rg ?_
          refine TrL.op (ok_move rfl (fun _ => rfl)) rfl rfl ?_
          refine TrL.op (ok_eql rfl (fun _ => rfl) rfl (fun _ => rfl)) rfl rfl ?_
          refine TrL.op (ok_move rfl (fun _ => rfl)) rfl rfl ?_
          refine TrL.gd rfl rfl rfl (ok_move rfl (fun _ => rfl)) rfl rfl ?_
          refine TrL.gd rfl rfl rfl (ok_eql rfl id rfl (fun _ => rfl)) rfl rfl ?_
          refine TrL.op (ok_and rfl (fun _ => rfl) rfl (fun hp h => gdT2 ((fun _ => rfl) hp) h)) rfl rfl ?_
          refine TrL.op (ok_move rfl (fun _ => rfl)) rfl rfl ?_
          refine TrL.gd rfl rfl rfl (ok_move rfl (fun _ => rfl)) rfl rfl ?_
          refine TrL.gd rfl rfl rfl (ok_lenJ rfl id) rfl rfl ?_
          refine TrL.gd rfl rfl rfl (ok_eql rfl id rfl (fun _ => rfl)) rfl rfl ?_
          refine TrL.op (ok_and rfl (fun _ => rfl) rfl (fun hp h => gdT2 ((fun _ => rfl) hp) h)) rfl rfl ?_
          refine TrL.op (ok_move rfl (fun _ => rfl)) rfl rfl ?_
          refine TrL.gd rfl rfl rfl (ok_move rfl (fun _ => rfl)) rfl rfl ?_
          refine TrL.gd rfl rfl rfl (ok_lenJ rfl id) rfl rfl ?_
          refine TrL.gd rfl rfl rfl (ok_eql rfl id rfl (fun _ => rfl)) rfl rfl ?_
          refine TrL.op (ok_and rfl (fun _ => rfl) rfl (fun hp h => gdT2 ((fun _ => rfl) hp) h)) rfl rfl ?_
          refine TrL.op (ok_assign rfl (fun _ => rfl)) rfl rfl ?_
          refine TrL.fin ?_
          refine End.nxt ?_
          refine Tr.ret ?_
          refine Rts.thn ?_
          exact Rts.res1 (fn := Try.f10) rfl (.b rfl (by simp [e1, e2, l1, l2]) <| .nil)
        · intro h11
          replace h11 := of_decide_eq_false h11
          have hm0 : (mapsL a b).length ≠ 0 := by omega
          rw [if_neg hm0] at e2
          have l2 : covL a b = nth (mapsL a b) 0 := (by unfold covL; rw [e2]; rfl)
          refine Tr.skip ?_
          refine End.nxt ?_
          refine Tr.seq ?_
          refine Tr.seq ?_
          refine Tr.rg ?_
          refine TrL.op (ok_move rfl (fun _ => rfl)) rfl rfl ?_
          refine TrL.op (ok_neq rfl (fun _ => rfl) rfl (fun _ => rfl)) rfl rfl ?_
          refine TrL.op (ok_move rfl (fun _ => rfl)) rfl rfl ?_
          refine TrL.gd rfl rfl rfl (ok_move rfl (fun _ => rfl)) rfl rfl ?_
          refine TrL.gd rfl rfl rfl (ok_move rfl (fun _ => rfl)) rfl rfl ?_
          first | refine TrL.gd rfl rfl rfl (ok_idxN rfl id rfl (fun _ => rfl) rfl (fun hp => by simp at hp; omega)) rfl rfl ?_ | refine TrL.gd rfl rfl rfl (ok_idxP rfl id rfl (fun _ => rfl) rfl (fun hp => by simp at hp; omega)) rfl rfl ?_
          refine TrL.gd rfl rfl rfl (ok_ldP rfl id rfl) rfl rfl ?_
          refine TrL.gd rfl rfl rfl (ok_call (fun hp => ct_Ints _ _) (.a rfl id <| .a rfl id <| .nil)) rfl rfl ?_
          refine TrL.gd rfl rfl rfl (ok_not rfl id) rfl rfl ?_
          refine TrL.op (ok_or rfl (fun _ => rfl) rfl (fun hp h => gdF2 ((fun _ => rfl) hp) h)) rfl rfl ?_
          refine TrL.fin ?_
          refine End.nxt ?_
          refine Tr.cnd rfl ?_ ?_
          · intro h13
            rw [e2, l2] at h13
            simp at h13
          · intro h13
            refine Tr.skip ?_
            refine End.nxt ?_
            refine Tr.seq ?_
            refine Tr.seq ?_
            refine Tr.draw 3 mixed (by kernel_rfl) ?_
            refine RunD.op (ok_ldBS rfl (fun _ => rfl)) rfl rfl ?_
            refine RunD.op (ok_call (fun hp => ct_rSize _) (.s rfl (fun _ => rfl) rfl <| .nil)) rfl rfl ?_
            refine RunD.op (ok_ldBS rfl (fun _ => rfl)) rfl rfl ?_
            refine RunD.z ?_
            refine TrL.op (ok_call (fun hp => ct_rSize _) (.s rfl (fun _ => rfl) rfl <| .nil)) rfl rfl ?_
            refine TrL.op (ok_neq rfl (fun _ => rfl) rfl (fun _ => rfl)) rfl rfl ?_
            refine TrL.fin ?_
            refine End.nxt ?_
            refine Tr.cnd rfl ?_ ?_
            · intro h15
              replace h15 := of_decide_eq_true h15
              rw [if_pos (.inl (by omega))] at e1
              have l1 : isoL a b = [] := (by unfold isoL; rw [e1]; rfl)
              refine Tr.seq ?_
              refine Tr.rg ?_
              refine TrL.op (ok_move rfl (fun _ => rfl)) rfl rfl ?_
              refine TrL.op (ok_eql rfl (fun _ => rfl) rfl (fun _ => rfl)) rfl rfl ?_
              refine TrL.op (ok_move rfl (fun _ => rfl)) rfl rfl ?_
              refine TrL.gd rfl rfl rfl (ok_move rfl (fun _ => rfl)) rfl rfl ?_
              refine TrL.gd rfl rfl rfl (ok_lenJ rfl id) rfl rfl ?_
              refine TrL.gd rfl rfl rfl (ok_eql rfl id rfl (fun _ => rfl)) rfl rfl ?_
              refine TrL.op (ok_and rfl (fun _ => rfl) rfl (fun hp h => gdT2 ((fun _ => rfl) hp) h)) rfl rfl ?_
              refine TrL.op (ok_assign rfl (fun _ => rfl)) rfl rfl ?_
              refine TrL.fin ?_
              refine End.nxt ?_
              refine Tr.ret ?_
              refine Rts.thn ?_
              exact Rts.res1 (fn := Try.f10) rfl (.b rfl (by simp [e1, l1]) <| .nil)
            · intro h15
              replace h15 := Classical.not_not.1 (of_decide_eq_false h15)
              rw [if_neg (by omega)] at e1
              have l1 : isoL a b = nth (mapsL a b) 0 := (by unfold isoL; rw [e1]; rfl)
              refine Tr.skip ?_
              refine End.nxt ?_
              refine Tr.seq ?_
              refine Tr.rg ?_
              refine TrL.op (ok_move rfl (fun _ => rfl)) rfl rfl ?_
              refine TrL.op (ok_eql rfl (fun _ => rfl) rfl (fun _ => rfl)) rfl rfl ?_
              refine TrL.op (ok_move rfl (fun _ => rfl)) rfl rfl ?_
              refine TrL.gd rfl rfl rfl (ok_move rfl (fun _ => rfl)) rfl rfl ?_
              refine TrL.gd rfl rfl rfl (ok_move rfl (fun _ => rfl)) rfl rfl ?_
              first | refine TrL.gd rfl rfl rfl (ok_idxN rfl id rfl (fun _ => rfl) rfl (fun hp => by simp at hp; omega)) rfl rfl ?_ | refine TrL.gd rfl rfl rfl (ok_idxP rfl id rfl (fun _ => rfl) rfl (fun hp => by simp at hp; omega)) rfl rfl ?_
              refine TrL.gd rfl rfl rfl (ok_ldP rfl id rfl) rfl rfl ?_
              refine TrL.gd rfl rfl rfl (ok_call (fun hp => ct_Ints _ _) (.a rfl id <| .a rfl id <| .nil)) rfl rfl ?_
              refine TrL.op (ok_and rfl (fun _ => rfl) rfl (fun hp h => gdT2 ((fun _ => rfl) hp) h)) rfl rfl ?_
              refine TrL.op (ok_assign rfl (fun _ => rfl)) rfl rfl ?_
              refine TrL.fin ?_
              refine End.nxt ?_
              refine Tr.ret ?_
              exact Rts.res1 (fn := Try.f10) rfl (.b rfl (by simp [e1, l1]) <| .nil)

end Go.Fl

/- THE LAW OrigamiMaps HOLDS FOR EVERY INPUT: whatever the arguments, the call returns true, and each argument reads behind it as before. Conditions: those of the given row (its listed variables as the program lays them). -/
namespace Go.Proofs.Ytphkjcmonjbpfaa
open Go Go.Fl Go.RowKit Go.ChangeShapes Go.WideShapes Go.ChangeAt

theorem rdt22 : RdT Try.prog 22 (eL eI) (ListP (okI .i64)) := RdT.slice RdT.int rfl rfl rfl
theorem rdt24t : RdT Try.prog 24 (eP (eL eI) (eP (eL eI) eU)) (AndP (ListP (okI .i64)) (AndP (ListP (okI .i64)) UnitP)) := by
  refine RdT.struct (l := [_, _]) Try.underlying24 rfl (by kernel_rfl) ?_
  refine FldT.cons rdt22 (by rfl) (by rfl) (by rfl) ?_
  refine FldT.cons rdt22 (by rfl) (by rfl) (by rfl) ?_
  exact FldT.nil
theorem rdt24 : RdT Try.prog 24 eO (fun o : Ori => ListP (okI .i64) o.1 ∧ ListP (okI .i64) o.2) := RdT.conv rdt24t (fun x => ((x.1, x.2.1) : Ori)) (fun _ _ _ h => h) (fun _ h => ⟨h.1, h.2.1⟩)
theorem own : ownKnob Try.prog.godebug = none := by kernel_rfl
set_option maxRecDepth 100000 in
theorem lifted0 (os : Os) (started : os.Started) (H : Type) (enc : TypeId × Value → H) :
    ReturnsInHanded {} Try.checked os 10 .any (fun w args => (Rows.origamiMapsSpec.pre enc Try.prog Try.f10 [] false w args ∧ True) ∧ sizedMet enc Try.prog Try.f10 (OpenSpec.ofChange Rows.origamiMapsSpec) false w args)
      (Rows.origamiMapsSpec.post enc Try.prog Try.f10 false true false false) := by
  refine returnsInHanded_of_change_and (C := Try.checked) (X := fun _ _ => True) (fun _ _ _ _ h => h) own started (by kernel_rfl) Try.func10
    (ChangeSpec.witness_shaped (enc := enc) (C := Try.checked) (os := os) (X := fun _ _ => True) false (World.laidAll Try.prog os Rows.origamiMapsRow.laid) #[.agg #[.slice none 0 0, .slice none 0 0], .agg #[.slice none 0 0, .slice none 0 0]] 8 (World.laidAll_os _ _ _)
      (World.shaped_of_ZipB (by kernel_rfl) (by kernel_rfl)) (by kernel_rfl) (by kernel_rfl) (by kernel_rfl)
      trivial) ?_
  intro W base args ds gs before hval0 hW _ hwt hL _
  have hval : ∀ (j : Nat) t v, Try.f10.params[j]? = some t → args[j]? = some v → Value.okWide Try.prog W .any base t v := hval0
  have hpost : ∀ W', Below W.heap.size W W' → Rows.origamiMapsSpec.post enc Try.prog Try.f10 false true false false W args (.bool true) W' := fun W' hb => law_post (by kernel_rfl) (by kernel_rfl) (by kernel_rfl) hW (by kernel_rfl) rfl (fun hg => by
    subst hg
    obtain ⟨p, q, hA0, _⟩ := hW
    have hA : DataW.TrodAll enc Try.prog W 0 (fun _ => true) true Try.f10.params.toList args.toList ds p := hA0
    rw [Try.params10] at hA
    obtain ⟨v0, v1, d0, d1, _, _, rfl, rfl, _, _, _⟩ := trodAll_two hA
    rfl) rfl Try.underlying4 hb
  have hW0 := hW
  obtain ⟨p, q, hA0, hV, rfl, _, _⟩ := hW0
  have hA : DataW.TrodAll enc Try.prog W 0 (fun _ => true) true Try.f10.params.toList args.toList ds p := hA0
  rw [Try.params10] at hA hval hwt
  obtain ⟨rfl, rfl⟩ := trodVars_none hV
  obtain ⟨v0, v1, d0, d1, _, _, rfl, rfl, _, h0, h1⟩ := trodAll_two hA
  have hwt' : (DataW.weightsEach Try.prog [24, 24] [d0, d1]).all (· ≤ reachBytes) = true := hwt
  have w0 := weights_cons hwt'
  have w1 := weights_cons w0.2
  obtain ⟨x0, k0, r0⟩ := RdT.val (by exact rdt24 : RdT Try.prog 24 eO (fun o : Ori => ListP (okI .i64) o.1 ∧ ListP (okI .i64) o.2)) rfl (hval 0 24 v0 rfl rfl) h0 w0.1
  obtain ⟨x1, k1, r1⟩ := RdT.val (by exact rdt24 : RdT Try.prog 24 eO (fun o : Ori => ListP (okI .i64) o.1 ∧ ListP (okI .i64) o.2)) rfl (hval 1 24 v1 rfl rfl) h1 w1.1
  refine Ct.law (vs := #[v0, v1]) (ct_OrigamiMaps x0 x1) ?_ fun W' hb => ⟨_, rfl, hpost W' hb⟩
  exact ⟨k0, k1, trivial⟩
theorem lifted (os : Os) (started : os.Started) (H : Type) (enc : TypeId × Value → H) :
    ReturnsInHanded {} Try.checked os 10 .any (fun w args => Rows.origamiMapsSpec.pre enc Try.prog Try.f10 [] false w args ∧ sizedMet enc Try.prog Try.f10 (OpenSpec.ofChange Rows.origamiMapsSpec) false w args)
      (Rows.origamiMapsSpec.post enc Try.prog Try.f10 false true false false) := by
  have h := lifted0 os started H enc
  simp only [and_true] at h
  exact h
theorem holds : Rows.origamiMapsRow.holds Try.pinned (OpenSpec.ofChange Rows.origamiMapsSpec) :=
  OpenClaim.holds_of_wide 10 Try.f10 rfl rfl rfl rfl rfl rfl rfl ⟨rfl, rfl, rfl, rfl, rfl⟩ rfl rfl rfl rfl rfl (by kernel_rfl) Try.func10 (by kernel_rfl)
    (of_decide_eq_true (by kernel_rfl)) (by unfold Func.isWrapper; first | (rw [if_pos (by decide +kernel)]; kernel_rfl) | (rw [if_neg (by decide +kernel)]; exact ⟨rfl, rfl⟩))
    (fun os started H enc _ => lifted os started H enc)
theorem origamiMaps_holds : Rows.OrigamiMapsSaid := holds
end Go.Proofs.Ytphkjcmonjbpfaa
