/- THE LAW HomologyHolonomies HOLDS FOR EVERY INPUT: whatever the arguments, the call returns true, and each argument reads behind it as before. Conditions: those of the given row (its listed variables as the program lays them). -/
import Derived.Test.YtjknpblmpcecjaaDoorM4
import Derived.ProofKit
import Derived.LaidMore
import Derived.OpenShut
import Derived.Lay
import Derived.LaidOnce
import Derived.SevenTiedAt
import Derived.Stop.Joined
import Derived.Test.YtjknpblmpcecjaaDoorTie
import Derived.Test.YtjknpblmpcecjaaDoorCards
import Derived.Test.YtjknpblmpcecjaaDoorRows

/- Contracts of the reference of chapter 8: words. -/
namespace Go.Fl
open Go Go.Proofs


theorem orE_assoc {a b c : Int} : orE a (orE b c) = orE (orE a b) c := by
  by_cases h : a = 0
  · rw [orE_r h, orE_r h]
  · rw [orE_l h, orE_l h, orE_l h]

set_option maxRecDepth 100000 in
theorem ct_rCheckWord (s : ByteArray) : Ct Tryd.prog 18 [kS s] (kI (chkW (bs s))) := by
  have hbl := bs_len (s := s)
  refine Ct.mk Tryd.func18 rfl Tryd.ntmps18 rfl (fun w J => ?_)
  refine Tr.seq ?_
  refine Tr.rg ?_
  refine TrL.op (ok_assign rfl (fun _ => rfl)) rfl rfl ?_
  refine TrL.fin ?_
  refine End.nxt ?_
  refine Tr.seq ?_
  refine Tr.seq ?_
  refine Tr.rg ?_
  refine TrL.op (ok_move rfl (fun _ => rfl)) rfl rfl ?_
  refine TrL.op (ok_lenS rfl (fun _ => rfl)) rfl rfl ?_
  refine TrL.op (ok_gtr rfl (fun _ => rfl) rfl (fun _ => rfl)) rfl rfl ?_
  refine TrL.fin ?_
  refine End.nxt ?_
  refine Tr.cnd rfl ?_ ?_
  · intro h1
    replace h1 := of_decide_eq_true h1
    refine Tr.seq ?_
    refine Tr.rg ?_
    refine TrL.op (ok_assign rfl (fun _ => rfl)) rfl rfl ?_
    refine TrL.fin ?_
    refine End.nxt ?_
    refine Tr.ret ?_
    refine Rts.thn ?_
    exact Rts.res1 (fn := Tryd.f18) rfl (.i rfl (by unfold chkW; rw [if_pos (by omega)]) <| .nil)
  · intro h1
    replace h1 := Int.not_lt.1 (of_decide_eq_false h1)
    refine Tr.skip ?_
    refine End.nxt ?_
    refine Tr.seq ?_
    refine Tr.seq ?_
    refine Tr.rg ?_
    refine TrL.op (ok_assign rfl (fun _ => rfl)) rfl rfl ?_
    refine TrL.fin ?_
    refine End.nxt ?_
    refine Tr.for1 (σ := Nat) [⟨0, true, _, _⟩] [] (fun k => [⟨3, true, [], kI (k : Int)⟩]) (fun k => []) (fun k => k ≤ s.size ∧ ∀ i, i < k → isLet (nth (bs s) i) = true) (fun k => ∀ i, i < s.size → isLet (nth (bs s) i) = true) (fun k => s.size - k) (0) ⟨Nat.zero_le _, fun i h => absurd h (by omega)⟩ (Ent.mk (.i rfl (by first | rfl | omega | (simp; done) | (simp; omega) | assumption) <| .k rfl rfl <| .nil) (.nil) rfl) ?_ ?_
    · rintro k ⟨hk0, hR0⟩
      refine Tr.norm (S' := [⟨3, true, _, _⟩, ⟨0, true, _, _⟩]) (M' := []) rfl rfl ?_
      refine Tr.seq ?_
      refine Tr.seq ?_
      refine Tr.rg ?_
      refine TrL.op (ok_move rfl (fun _ => rfl)) rfl rfl ?_
      refine TrL.op (ok_move rfl (fun _ => rfl)) rfl rfl ?_
      refine TrL.op (ok_lenS rfl (fun _ => rfl)) rfl rfl ?_
      refine TrL.op (ok_lss rfl (fun _ => rfl) rfl (fun _ => rfl)) rfl rfl ?_
      refine TrL.fin ?_
      refine End.nxt ?_
      refine Tr.cnd rfl ?_ ?_
      · intro h4
        replace h4 := of_decide_eq_true h4
        refine Tr.skip ?_
        refine End.nxt ?_
        refine Tr.seq ?_
        refine Tr.blk ?_
        refine Tr.seq ?_
        refine Tr.rg ?_
        refine TrL.op (ok_move rfl (fun _ => rfl)) rfl rfl ?_
        refine TrL.op (ok_move rfl (fun _ => rfl)) rfl rfl ?_
        refine TrL.op (ok_idxS rfl (fun _ => rfl) rfl (fun _ => rfl) (fun _ => by omega)) rfl rfl ?_
        refine TrL.op (ok_neq rfl (fun _ => rfl) rfl (fun _ => rfl)) rfl rfl ?_
        refine TrL.op (ok_move rfl (fun _ => rfl)) rfl rfl ?_
        refine TrL.gd rfl rfl rfl (ok_move rfl (fun _ => rfl)) rfl rfl ?_
        refine TrL.gd rfl rfl rfl (ok_move rfl (fun _ => rfl)) rfl rfl ?_
        refine TrL.gd rfl rfl rfl (ok_idxS rfl id rfl id (fun hp => by simp at hp; omega)) rfl rfl ?_
        refine TrL.gd rfl rfl rfl (ok_neq rfl id rfl (fun _ => rfl)) rfl rfl ?_
        refine TrL.op (ok_and rfl (fun _ => rfl) rfl (fun hp h => gdT2 ((fun _ => rfl) hp) h)) rfl rfl ?_
        refine TrL.op (ok_move rfl (fun _ => rfl)) rfl rfl ?_
        refine TrL.gd rfl rfl rfl (ok_move rfl (fun _ => rfl)) rfl rfl ?_
        refine TrL.gd rfl rfl rfl (ok_move rfl (fun _ => rfl)) rfl rfl ?_
        refine TrL.gd rfl rfl rfl (ok_idxS rfl id rfl id (fun hp => by simp at hp; omega)) rfl rfl ?_
        refine TrL.gd rfl rfl rfl (ok_neq rfl id rfl (fun _ => rfl)) rfl rfl ?_
        refine TrL.op (ok_and rfl (fun _ => rfl) rfl (fun hp h => gdT2 ((fun _ => rfl) hp) h)) rfl rfl ?_
        refine TrL.op (ok_move rfl (fun _ => rfl)) rfl rfl ?_
        refine TrL.gd rfl rfl rfl (ok_move rfl (fun _ => rfl)) rfl rfl ?_
        refine TrL.gd rfl rfl rfl (ok_move rfl (fun _ => rfl)) rfl rfl ?_
        refine TrL.gd rfl rfl rfl (ok_idxS rfl id rfl id (fun hp => by simp at hp; omega)) rfl rfl ?_
        refine TrL.gd rfl rfl rfl (ok_neq rfl id rfl (fun _ => rfl)) rfl rfl ?_
        refine TrL.op (ok_and rfl (fun _ => rfl) rfl (fun hp h => gdT2 ((fun _ => rfl) hp) h)) rfl rfl ?_
        refine TrL.fin ?_
        refine End.nxt ?_
        refine Tr.cnd rfl ?_ ?_
        · intro h6
          try simp only [decide_eq_true_eq, Bool.and_eq_true, ne_eq] at h6
          refine Tr.seq ?_
          refine Tr.rg ?_
          refine TrL.op (ok_assign rfl (fun _ => rfl)) rfl rfl ?_
          refine TrL.fin ?_
          refine End.nxt ?_
          refine Tr.ret ?_
          refine Rts.out ?_
          refine Rts.thn ?_
          refine Rts.thn ?_
          refine Rts.out ?_
          refine Rts.thn ?_
          refine Rts.thn ?_
          exact Rts.res1 (fn := Tryd.f18) rfl (.i rfl (by unfold chkW; rw [if_neg (by omega), if_neg (fun hh => by (have := all_drop hh (j := k) (by omega); have := of_decide_eq_true this; omega))]) <| .nil)
        · intro h6
          try simp only [decide_eq_true_eq, decide_eq_false_iff_not, Bool.and_eq_true, Bool.and_eq_false_imp, ne_eq, Classical.not_not] at h6
          refine Tr.skip ?_
          refine End.blk ?_
          refine End.nxt ?_
          refine Tr.rg ?_
          refine TrL.op (ok_move rfl (fun _ => rfl)) rfl rfl ?_
          refine TrL.op (ok_add rfl (fun _ => rfl) rfl (fun _ => rfl) (fun _ => by omega)) rfl rfl ?_
          refine TrL.op (ok_assign rfl (fun _ => rfl)) rfl rfl ?_
          refine TrL.fin ?_
          exact End.lp (k + 1) ⟨by omega, all_succ hR0 (decide_eq_true (by omega))⟩ (by omega) (Ent.mk (.i rfl (by first | rfl | omega | (simp; done) | (simp; omega) | assumption) <| .k rfl rfl <| .nil) (.nil) rfl)
      · intro h4
        replace h4 := Int.not_lt.1 (of_decide_eq_false h4)
        refine Tr.exit ?_
        refine Exs.thn ?_
        refine Exs.thn ?_
        refine Exs.here ?_
        exact End.cut (k) (fun i hi => hR0 i (by omega)) (Ent.mk (.i rfl (by first | rfl | omega | (simp; done) | (simp; omega) | assumption) <| .k rfl rfl <| .nil) (.nil) rfl)
    · intro k hE0
      refine End.norm (S' := [⟨3, true, _, _⟩, ⟨0, true, _, _⟩]) (M' := []) rfl rfl ?_
      refine End.nxt ?_
      refine Tr.seq ?_
      refine Tr.rg ?_
      refine TrL.op (ok_assign rfl (fun _ => rfl)) rfl rfl ?_
      refine TrL.fin ?_
      refine End.nxt ?_
      refine Tr.ret ?_
      exact Rts.res1 (fn := Tryd.f18) rfl (.i rfl (by unfold chkW; rw [if_neg (by omega), if_pos (List.all_eq_true.2 (fun x hx => by (obtain ⟨i, hi, rfl⟩ := mem_nth hx; exact hE0 i (by omega))))]) <| .nil)

set_option maxRecDepth 100000 in
set_option maxHeartbeats 1000000 in
theorem ct_rletter (o : Ori) (x : Int) (c : List Int) (v : Valid o) (hx : isLet x = true) (hc : c.length = 2 * o.1.length) : Ct Tryd.prog 49 [kRd eO o, kInt .u8 x, kRd (eL eI) c] (kTup [kRd eO (letO x o), kRd (eL eI) (letC x o c)]) := by
  have hv0 := v.pos
  have hv1 := v.len
  have hv2 := v.le
  have hl1 := invL_len o.1
  have hl2 := invL_len o.2
  refine Ct.mk Tryd.func49 rfl Tryd.ntmps49 rfl (fun w J => ?_)
  refine Tr.seq ?_
  refine Tr.rg ?_
  refine TrL.new (ok_box 3 rfl (fun _ => rfl) rfl) rfl rfl rfl rfl ?_
  refine TrL.new (ok_alloc 6) rfl rfl rfl rfl ?_
  refine TrL.op (ok_assign rfl (fun _ => rfl)) rfl rfl ?_
  refine TrL.fin ?_
  refine End.nxt ?_
  refine Tr.seq ?_
  refine Tr.rg ?_
  refine TrL.op (ok_ldBS rfl (fun _ => rfl)) rfl rfl ?_
  refine TrL.op (ok_call (fun hp => ct_rOpen _ v) (.s rfl (fun _ => rfl) rfl <| .nil)) rfl rfl ?_
  refine TrL.new (ok_alloc 8) rfl rfl rfl rfl ?_
  refine TrL.stB rfl rfl rfl rfl ?_
  refine TrL.fin ?_
  refine End.nxt ?_
  refine Tr.seq ?_
  refine Tr.rg ?_
  refine TrL.op (ok_fldO rfl (fun _ => rfl)) rfl rfl ?_
  refine TrL.op (ok_ldB rfl (fun _ => rfl) rfl) rfl rfl ?_
  refine TrL.op (ok_assign rfl (fun _ => rfl)) rfl rfl ?_
  refine TrL.fin ?_
  refine End.nxt ?_
  refine Tr.seq ?_
  refine Tr.rg ?_
  refine TrL.op (ok_move rfl (fun _ => rfl)) rfl rfl ?_
  refine TrL.op (ok_mul rfl (fun _ => rfl) rfl (fun _ => rfl) (fun _ => by omega)) rfl rfl ?_
  refine TrL.new (ok_make eI 27 rfl (fun _ => rfl) rfl (fun _ => rfl) rfl rfl (fun _ => by omega)) rfl rfl rfl rfl ?_
  refine TrL.op (ok_assign rfl (fun _ => rfl)) rfl rfl ?_
  refine TrL.fin ?_
  refine End.nxt ?_
  refine Tr.seq ?_
  refine Tr.rg ?_
  refine TrL.new (ok_alloc 11) rfl rfl rfl rfl ?_
  refine TrL.fin ?_
  refine End.nxt ?_
  refine Tr.meet2 (σ := Unit) [⟨1, true, _, _⟩, ⟨2, true, _, _⟩, ⟨6, true, _, _⟩, ⟨8, true, _, _⟩, ⟨9, true, _, _⟩, ⟨10, true, _, _⟩, ⟨11, true, _, _⟩] [⟨6, _, _⟩, ⟨8, _, _⟩, ⟨27, _, _⟩] (.k rfl rfl <| .k rfl rfl <| .k rfl rfl <| .k rfl rfl <| .k rfl rfl <| .k rfl rfl <| .k rfl rfl <| .nil) (.k rfl <| .k rfl <| .k rfl <| .nil) (fun _ => []) (fun _ => [⟨11, [], cBlk [kRd (eL eI) (letO x o).1, kRd (eL eI) (letO x o).2]⟩]) (fun _ => True) ?_ ?_
  · skip
    refine Tr.seq ?_
    refine Tr.rg ?_
    refine TrL.op (ok_move rfl (fun _ => rfl)) rfl rfl ?_
    refine TrL.fin ?_
    refine End.nxt ?_
    refine Tr.blk ?_
    refine Tr.seq ?_
    refine Tr.rg ?_
    refine TrL.op (ok_eql rfl (fun _ => rfl) rfl (fun _ => rfl)) rfl rfl ?_
    refine TrL.op (ok_assign rfl (fun _ => rfl)) rfl rfl ?_
    refine TrL.fin ?_
    refine End.nxt ?_
    refine Tr.cnd rfl ?_ ?_
    · intro h7
      try simp only [decide_eq_true_eq] at h7
      refine Tr.draw 7 mixed (by kernel_rfl) ?_
      refine RunD.op (ok_fldO rfl (fun _ => rfl)) rfl rfl ?_
      refine RunD.op (ok_ldB rfl (fun _ => rfl) rfl) rfl rfl ?_
      refine RunD.op (ok_fldO rfl (fun _ => rfl)) rfl rfl ?_
      refine RunD.op (ok_ldB rfl (fun _ => rfl) rfl) rfl rfl ?_
      refine RunD.op (ok_fldO rfl (fun _ => rfl)) rfl rfl ?_
      refine RunD.op (ok_ldB rfl (fun _ => rfl) rfl) rfl rfl ?_
      refine RunD.op (ok_call (fun hp => ct_rAfter _ _ (by omega) (by rw [hl1]; exact v.rU)) (.a rfl (fun _ => rfl) <| .a rfl (fun _ => rfl) <| .nil)) rfl rfl ?_
      refine RunD.z ?_
      refine TrL.op (ok_build (fun hp => .cons rfl rfl rfl <| .cons rfl rfl rfl <| .nil)) rfl rfl ?_
      refine TrL.stB rfl rfl rfl rfl ?_
      refine TrL.fin ?_
      refine End.blk ?_
      exact End.cut (()) (by first | rfl | omega | (simp; done) | (simp; omega) | assumption) (Ent.mk (.k rfl rfl <| .k rfl rfl <| .k rfl rfl <| .k rfl rfl <| .k rfl rfl <| .k rfl rfl <| .k rfl rfl <| .nil) (.e (by subst h7; rfl) rfl <| .k rfl <| .k rfl <| .k rfl <| .nil) rfl)
    · intro h7
      try simp only [decide_eq_false_iff_not] at h7
      refine Tr.seq ?_
      refine Tr.rg ?_
      refine TrL.op (ok_eql rfl (fun _ => rfl) rfl (fun _ => rfl)) rfl rfl ?_
      refine TrL.op (ok_assign rfl (fun _ => rfl)) rfl rfl ?_
      refine TrL.fin ?_
      refine End.nxt ?_
      refine Tr.cnd rfl ?_ ?_
      · intro h9
        try simp only [decide_eq_true_eq] at h9
        refine Tr.draw 7 mixed (by kernel_rfl) ?_
        refine RunD.op (ok_fldO rfl (fun _ => rfl)) rfl rfl ?_
        refine RunD.op (ok_ldB rfl (fun _ => rfl) rfl) rfl rfl ?_
        refine RunD.op (ok_fldO rfl (fun _ => rfl)) rfl rfl ?_
        refine RunD.op (ok_ldB rfl (fun _ => rfl) rfl) rfl rfl ?_
        refine RunD.op (ok_fldO rfl (fun _ => rfl)) rfl rfl ?_
        refine RunD.op (ok_ldB rfl (fun _ => rfl) rfl) rfl rfl ?_
        refine RunD.op (ok_call (fun hp => ct_rAfter _ _ (by omega) v.rU) (.a rfl (fun _ => rfl) <| .a rfl (fun _ => rfl) <| .nil)) rfl rfl ?_
        refine RunD.z ?_
        refine TrL.op (ok_build (fun hp => .cons rfl rfl rfl <| .cons rfl rfl rfl <| .nil)) rfl rfl ?_
        refine TrL.stB rfl rfl rfl rfl ?_
        refine TrL.fin ?_
        refine End.blk ?_
        exact End.cut (()) (by first | rfl | omega | (simp; done) | (simp; omega) | assumption) (Ent.mk (.k rfl rfl <| .k rfl rfl <| .k rfl rfl <| .k rfl rfl <| .k rfl rfl <| .k rfl rfl <| .k rfl rfl <| .nil) (.e (by subst h9; rfl) rfl <| .k rfl <| .k rfl <| .k rfl <| .nil) rfl)
      · intro h9
        try simp only [decide_eq_false_iff_not] at h9
        refine Tr.seq ?_
        refine Tr.rg ?_
        refine TrL.op (ok_eql rfl (fun _ => rfl) rfl (fun _ => rfl)) rfl rfl ?_
        refine TrL.op (ok_assign rfl (fun _ => rfl)) rfl rfl ?_
        refine TrL.fin ?_
        refine End.nxt ?_
        refine Tr.cnd rfl ?_ ?_
        · intro h11
          try simp only [decide_eq_true_eq] at h11
          refine Tr.rg ?_
          refine TrL.op (ok_fldO rfl (fun _ => rfl)) rfl rfl ?_
          refine TrL.op (ok_ldB rfl (fun _ => rfl) rfl) rfl rfl ?_
          refine TrL.op (ok_fldO rfl (fun _ => rfl)) rfl rfl ?_
          refine TrL.op (ok_ldB rfl (fun _ => rfl) rfl) rfl rfl ?_
          refine TrL.op (ok_build (fun hp => .cons rfl rfl rfl <| .cons rfl rfl rfl <| .nil)) rfl rfl ?_
          refine TrL.stB rfl rfl rfl rfl ?_
          refine TrL.fin ?_
          refine End.blk ?_
          exact End.cut (()) (by first | rfl | omega | (simp; done) | (simp; omega) | assumption) (Ent.mk (.k rfl rfl <| .k rfl rfl <| .k rfl rfl <| .k rfl rfl <| .k rfl rfl <| .k rfl rfl <| .k rfl rfl <| .nil) (.e (by subst h11; rfl) rfl <| .k rfl <| .k rfl <| .k rfl <| .nil) rfl)
        · intro h11
          try simp only [decide_eq_false_iff_not] at h11
          refine Tr.rg ?_
          refine TrL.op (ok_fldO rfl (fun _ => rfl)) rfl rfl ?_
          refine TrL.op (ok_ldB rfl (fun _ => rfl) rfl) rfl rfl ?_
          refine TrL.op (ok_fldO rfl (fun _ => rfl)) rfl rfl ?_
          refine TrL.op (ok_ldB rfl (fun _ => rfl) rfl) rfl rfl ?_
          refine TrL.op (ok_build (fun hp => .cons rfl rfl rfl <| .cons rfl rfl rfl <| .nil)) rfl rfl ?_
          refine TrL.stB rfl rfl rfl rfl ?_
          refine TrL.fin ?_
          refine End.blk ?_
          exact End.cut (()) (by first | rfl | omega | (simp; done) | (simp; omega) | assumption) (Ent.mk (.k rfl rfl <| .k rfl rfl <| .k rfl rfl <| .k rfl rfl <| .k rfl rfl <| .k rfl rfl <| .k rfl rfl <| .nil) (.e (by (have hq := isLet_cases hx; obtain rfl : x = 115 := by omega); rfl) rfl <| .k rfl <| .k rfl <| .k rfl <| .nil) rfl)
  · intro _ hM
    refine Tr.norm (S' := [⟨1, true, _, _⟩, ⟨2, true, _, _⟩, ⟨6, true, _, _⟩, ⟨8, true, _, _⟩, ⟨9, true, _, _⟩, ⟨10, true, _, _⟩, ⟨11, true, _, _⟩]) (M' := [⟨11, _, _⟩, ⟨6, _, _⟩, ⟨8, _, _⟩, ⟨27, _, _⟩]) rfl rfl ?_
    refine Tr.seq ?_
    refine Tr.seq ?_
    refine Tr.rg ?_
    refine TrL.op (ok_assign rfl (fun _ => rfl)) rfl rfl ?_
    refine TrL.fin ?_
    refine End.nxt ?_
    refine Tr.for1 (σ := Nat) [⟨1, true, _, _⟩, ⟨2, true, _, _⟩, ⟨6, true, _, _⟩, ⟨8, true, _, _⟩, ⟨9, true, _, _⟩, ⟨10, true, _, _⟩, ⟨11, true, _, _⟩] [⟨6, _, _⟩, ⟨8, _, _⟩, ⟨11, _, _⟩] (fun k => [⟨12, true, [], kI (k : Int)⟩]) (fun k => [⟨27, [], cArr false 3 eI (letK x o c k) (2 * o.1.length)⟩]) (fun k => k ≤ o.1.length) (fun k => k = o.1.length) (fun k => o.1.length - k) (0) (Nat.zero_le _) (Ent.mk (.i rfl (by first | rfl | omega | (simp; done) | (simp; omega) | assumption) <| .k rfl rfl <| .k rfl rfl <| .k rfl rfl <| .k rfl rfl <| .k rfl rfl <| .k rfl rfl <| .k rfl rfl <| .nil) (.a (by rw [show ((2 : Int) * o.1.length).toNat = 2 * o.1.length by omega]; exact letK_zero) (by omega) <| .k rfl <| .k rfl <| .k rfl <| .nil) rfl) ?_ ?_
    · intro k hR0
      refine Tr.norm (S' := [⟨12, true, _, _⟩, ⟨1, true, _, _⟩, ⟨2, true, _, _⟩, ⟨6, true, _, _⟩, ⟨8, true, _, _⟩, ⟨9, true, _, _⟩, ⟨10, true, _, _⟩, ⟨11, true, _, _⟩]) (M' := [⟨27, _, _⟩, ⟨6, _, _⟩, ⟨8, _, _⟩, ⟨11, _, _⟩]) rfl rfl ?_
      refine Tr.seq ?_
      refine Tr.seq ?_
      refine Tr.rg ?_
      refine TrL.op (ok_move rfl (fun _ => rfl)) rfl rfl ?_
      refine TrL.op (ok_move rfl (fun _ => rfl)) rfl rfl ?_
      refine TrL.op (ok_lss rfl (fun _ => rfl) rfl (fun _ => rfl)) rfl rfl ?_
      refine TrL.fin ?_
      refine End.nxt ?_
      refine Tr.cnd rfl ?_ ?_
      · intro h14
        replace h14 := of_decide_eq_true h14
        refine Tr.skip ?_
        refine End.nxt ?_
        refine Tr.seq ?_
        refine Tr.blk ?_
        refine Tr.seq ?_
        refine Tr.draw 11 mixed (by kernel_rfl) ?_
        have a1 := v.ri (i := k) (by omega)
        have a2 := v.ui (i := k) (by omega)
        have a3 := invR v (i := k) (by omega)
        have a4 := invU v (i := k) (by omega)
        have a5 := v.ui (i := (nth (invL o.1) k).toNat) (by omega)
        have a6 := invR v (i := (nth o.2 (nth (invL o.1) k).toNat).toNat) (by omega)
        have a7 := v.ri (i := (nth o.2 k).toNat) (by omega)
        refine RunD.op (ok_move rfl (fun _ => rfl)) rfl rfl ?_
        refine RunD.op (ok_move rfl (fun _ => rfl)) rfl rfl ?_
        first | refine RunD.op (ok_idxN rfl (fun _ => rfl) rfl (fun _ => rfl) rfl (fun _ => by omega)) rfl rfl ?_ | refine RunD.op (ok_idxP rfl (fun _ => rfl) rfl (fun _ => rfl) rfl (fun _ => by omega)) rfl rfl ?_
        refine RunD.op (ok_ldP rfl (fun _ => rfl) rfl) rfl rfl ?_
        refine RunD.op (ok_move rfl (fun _ => rfl)) rfl rfl ?_
        refine RunD.op (ok_move rfl (fun _ => rfl)) rfl rfl ?_
        refine RunD.op (ok_move rfl (fun _ => rfl)) rfl rfl ?_
        refine RunD.op (ok_add rfl (fun _ => rfl) rfl (fun _ => rfl) (fun _ => by omega)) rfl rfl ?_
        first | refine RunD.op (ok_idxN rfl (fun _ => rfl) rfl (fun _ => rfl) rfl (fun _ => by omega)) rfl rfl ?_ | refine RunD.op (ok_idxP rfl (fun _ => rfl) rfl (fun _ => rfl) rfl (fun _ => by omega)) rfl rfl ?_
        refine RunD.op (ok_ldP rfl (fun _ => rfl) rfl) rfl rfl ?_
        refine RunD.op (ok_assign rfl (fun _ => rfl)) rfl rfl ?_
        refine RunD.z ?_
        refine TrL.op (ok_assign rfl (fun _ => rfl)) rfl rfl ?_
        refine TrL.fin ?_
        refine End.nxt ?_
        refine Tr.seq ?_
        refine Tr.rg ?_
        refine TrL.op (ok_move rfl (fun _ => rfl)) rfl rfl ?_
        refine TrL.fin ?_
        refine End.nxt ?_
        refine Tr.blk ?_
        refine Tr.seq ?_
        refine Tr.rg ?_
        refine TrL.op (ok_eql rfl (fun _ => rfl) rfl (fun _ => rfl)) rfl rfl ?_
        refine TrL.op (ok_assign rfl (fun _ => rfl)) rfl rfl ?_
        refine TrL.fin ?_
        refine End.nxt ?_
        refine Tr.cnd rfl ?_ ?_
        · intro h20
          try simp only [decide_eq_true_eq] at h20
          refine Tr.seq ?_
          refine Tr.rg ?_
          refine TrL.op (ok_fldO rfl (fun _ => rfl)) rfl rfl ?_
          refine TrL.op (ok_ldB rfl (fun _ => rfl) rfl) rfl rfl ?_
          refine TrL.op (ok_move rfl (fun _ => rfl)) rfl rfl ?_
          first | refine TrL.op (ok_idxN rfl (fun _ => rfl) rfl (fun _ => rfl) rfl (fun _ => by omega)) rfl rfl ?_ | refine TrL.op (ok_idxP rfl (fun _ => rfl) rfl (fun _ => rfl) rfl (fun _ => by omega)) rfl rfl ?_
          refine TrL.op (ok_ldP rfl (fun _ => rfl) rfl) rfl rfl ?_
          refine TrL.op (ok_assign rfl (fun _ => rfl)) rfl rfl ?_
          refine TrL.fin ?_
          refine End.nxt ?_
          refine Tr.seq ?_
          refine Tr.draw 7 mixed (by kernel_rfl) ?_
          refine RunD.op (ok_fldO rfl (fun _ => rfl)) rfl rfl ?_
          refine RunD.op (ok_ldB rfl (fun _ => rfl) rfl) rfl rfl ?_
          refine RunD.op (ok_fldO rfl (fun _ => rfl)) rfl rfl ?_
          refine RunD.op (ok_ldB rfl (fun _ => rfl) rfl) rfl rfl ?_
          refine RunD.op (ok_move rfl (fun _ => rfl)) rfl rfl ?_
          first | refine RunD.op (ok_idxN rfl (fun _ => rfl) rfl (fun _ => rfl) rfl (fun _ => by omega)) rfl rfl ?_ | refine RunD.op (ok_idxP rfl (fun _ => rfl) rfl (fun _ => rfl) rfl (fun _ => by omega)) rfl rfl ?_
          refine RunD.op (ok_ldP rfl (fun _ => rfl) rfl) rfl rfl ?_
          refine RunD.z ?_
          first | refine TrL.op (ok_idxN rfl (fun _ => rfl) rfl (fun _ => rfl) rfl (fun _ => by omega)) rfl rfl ?_ | refine TrL.op (ok_idxP rfl (fun _ => rfl) rfl (fun _ => rfl) rfl (fun _ => by omega)) rfl rfl ?_
          refine TrL.op (ok_ldP rfl (fun _ => rfl) rfl) rfl rfl ?_
          refine TrL.op (ok_assign rfl (fun _ => rfl)) rfl rfl ?_
          refine TrL.fin ?_
          refine End.nxt ?_
          refine Tr.seq ?_
          refine Tr.rg ?_
          refine TrL.op (ok_move rfl (fun _ => rfl)) rfl rfl ?_
          refine TrL.op (ok_move rfl (fun _ => rfl)) rfl rfl ?_
          refine TrL.op (ok_move rfl (fun _ => rfl)) rfl rfl ?_
          refine TrL.op (ok_move rfl (fun _ => rfl)) rfl rfl ?_
          refine TrL.op (ok_idxE rfl (fun _ => rfl) rfl (fun _ => rfl) (fun _ => by omega)) rfl rfl ?_
          refine TrL.op (ok_ldE rfl (fun _ => rfl) rfl rfl rfl) rfl rfl ?_
          refine TrL.op (ok_move rfl (fun _ => rfl)) rfl rfl ?_
          refine TrL.op (ok_addW rfl (fun _ => rfl) rfl (fun _ => rfl)) rfl rfl ?_
          refine TrL.op (ok_idxE rfl (fun _ => rfl) rfl (fun _ => rfl) (fun _ => by omega)) rfl rfl ?_
          refine TrL.stE rfl rfl rfl rfl rfl ?_
          refine TrL.fin ?_
          refine End.nxt ?_
          refine Tr.seq ?_
          refine Tr.rg ?_
          refine TrL.op (ok_move rfl (fun _ => rfl)) rfl rfl ?_
          refine TrL.op (ok_move rfl (fun _ => rfl)) rfl rfl ?_
          refine TrL.op (ok_move rfl (fun _ => rfl)) rfl rfl ?_
          refine TrL.op (ok_add rfl (fun _ => rfl) rfl (fun _ => rfl) (fun _ => by omega)) rfl rfl ?_
          refine TrL.op (ok_move rfl (fun _ => rfl)) rfl rfl ?_
          refine TrL.op (ok_move rfl (fun _ => rfl)) rfl rfl ?_
          refine TrL.op (ok_move rfl (fun _ => rfl)) rfl rfl ?_
          refine TrL.op (ok_add rfl (fun _ => rfl) rfl (fun _ => rfl) (fun _ => by omega)) rfl rfl ?_
          refine TrL.op (ok_idxE rfl (fun _ => rfl) rfl (fun _ => rfl) (fun _ => by omega)) rfl rfl ?_
          refine TrL.op (ok_ldE rfl (fun _ => rfl) rfl rfl rfl) rfl rfl ?_
          refine TrL.op (ok_move rfl (fun _ => rfl)) rfl rfl ?_
          refine TrL.op (ok_addW rfl (fun _ => rfl) rfl (fun _ => rfl)) rfl rfl ?_
          refine TrL.op (ok_idxE rfl (fun _ => rfl) rfl (fun _ => rfl) (fun _ => by omega)) rfl rfl ?_
          refine TrL.stE rfl rfl rfl rfl rfl ?_
          refine TrL.fin ?_
          refine End.nxt ?_
          refine Tr.rg ?_
          refine TrL.op (ok_move rfl (fun _ => rfl)) rfl rfl ?_
          refine TrL.op (ok_move rfl (fun _ => rfl)) rfl rfl ?_
          refine TrL.op (ok_move rfl (fun _ => rfl)) rfl rfl ?_
          refine TrL.op (ok_move rfl (fun _ => rfl)) rfl rfl ?_
          refine TrL.op (ok_idxE rfl (fun _ => rfl) rfl (fun _ => rfl) (fun _ => by omega)) rfl rfl ?_
          refine TrL.op (ok_ldE rfl (fun _ => rfl) rfl rfl rfl) rfl rfl ?_
          refine TrL.op (ok_move rfl (fun _ => rfl)) rfl rfl ?_
          refine TrL.op (ok_addW rfl (fun _ => rfl) rfl (fun _ => rfl)) rfl rfl ?_
          refine TrL.op (ok_idxE rfl (fun _ => rfl) rfl (fun _ => rfl) (fun _ => by omega)) rfl rfl ?_
          refine TrL.stE rfl rfl rfl rfl rfl ?_
          refine TrL.fin ?_
          refine End.blk ?_
          refine End.blk ?_
          refine End.nxt ?_
          refine Tr.rg ?_
          refine TrL.op (ok_move rfl (fun _ => rfl)) rfl rfl ?_
          refine TrL.op (ok_add rfl (fun _ => rfl) rfl (fun _ => rfl) (fun _ => by omega)) rfl rfl ?_
          refine TrL.op (ok_assign rfl (fun _ => rfl)) rfl rfl ?_
          refine TrL.fin ?_
          exact End.lp (k + 1) (by first | rfl | omega | (simp; done) | (simp; omega) | assumption) (by omega) (Ent.mk (.i rfl (by first | rfl | omega | (simp; done) | (simp; omega) | assumption) <| .k rfl rfl <| .k rfl rfl <| .k rfl rfl <| .k rfl rfl <| .k rfl rfl <| .k rfl rfl <| .k rfl rfl <| .nil) (.a (by subst h20; exact letK_succ v (by omega) rfl W_one rfl W_one rfl W_one) (by first | rfl | omega | (simp; done) | (simp; omega) | assumption) <| .k rfl <| .k rfl <| .k rfl <| .nil) rfl)
        · intro h20
          try simp only [decide_eq_false_iff_not] at h20
          refine Tr.seq ?_
          refine Tr.rg ?_
          refine TrL.op (ok_eql rfl (fun _ => rfl) rfl (fun _ => rfl)) rfl rfl ?_
          refine TrL.op (ok_assign rfl (fun _ => rfl)) rfl rfl ?_
          refine TrL.fin ?_
          refine End.nxt ?_
          refine Tr.cnd rfl ?_ ?_
          · intro h26
            try simp only [decide_eq_true_eq] at h26
            refine Tr.seq ?_
            refine Tr.rg ?_
            refine TrL.op (ok_fldO rfl (fun _ => rfl)) rfl rfl ?_
            refine TrL.op (ok_ldB rfl (fun _ => rfl) rfl) rfl rfl ?_
            refine TrL.op (ok_move rfl (fun _ => rfl)) rfl rfl ?_
            first | refine TrL.op (ok_idxN rfl (fun _ => rfl) rfl (fun _ => rfl) rfl (fun _ => by omega)) rfl rfl ?_ | refine TrL.op (ok_idxP rfl (fun _ => rfl) rfl (fun _ => rfl) rfl (fun _ => by omega)) rfl rfl ?_
            refine TrL.op (ok_ldP rfl (fun _ => rfl) rfl) rfl rfl ?_
            refine TrL.op (ok_assign rfl (fun _ => rfl)) rfl rfl ?_
            refine TrL.fin ?_
            refine End.nxt ?_
            refine Tr.seq ?_
            refine Tr.draw 7 mixed (by kernel_rfl) ?_
            refine RunD.op (ok_fldO rfl (fun _ => rfl)) rfl rfl ?_
            refine RunD.op (ok_ldB rfl (fun _ => rfl) rfl) rfl rfl ?_
            refine RunD.op (ok_fldO rfl (fun _ => rfl)) rfl rfl ?_
            refine RunD.op (ok_ldB rfl (fun _ => rfl) rfl) rfl rfl ?_
            refine RunD.op (ok_move rfl (fun _ => rfl)) rfl rfl ?_
            first | refine RunD.op (ok_idxN rfl (fun _ => rfl) rfl (fun _ => rfl) rfl (fun _ => by omega)) rfl rfl ?_ | refine RunD.op (ok_idxP rfl (fun _ => rfl) rfl (fun _ => rfl) rfl (fun _ => by omega)) rfl rfl ?_
            refine RunD.op (ok_ldP rfl (fun _ => rfl) rfl) rfl rfl ?_
            refine RunD.z ?_
            first | refine TrL.op (ok_idxN rfl (fun _ => rfl) rfl (fun _ => rfl) rfl (fun _ => by omega)) rfl rfl ?_ | refine TrL.op (ok_idxP rfl (fun _ => rfl) rfl (fun _ => rfl) rfl (fun _ => by omega)) rfl rfl ?_
            refine TrL.op (ok_ldP rfl (fun _ => rfl) rfl) rfl rfl ?_
            refine TrL.op (ok_assign rfl (fun _ => rfl)) rfl rfl ?_
            refine TrL.fin ?_
            refine End.nxt ?_
            refine Tr.seq ?_
            refine Tr.rg ?_
            refine TrL.op (ok_move rfl (fun _ => rfl)) rfl rfl ?_
            refine TrL.op (ok_move rfl (fun _ => rfl)) rfl rfl ?_
            refine TrL.op (ok_move rfl (fun _ => rfl)) rfl rfl ?_
            refine TrL.op (ok_move rfl (fun _ => rfl)) rfl rfl ?_
            refine TrL.op (ok_idxE rfl (fun _ => rfl) rfl (fun _ => rfl) (fun _ => by omega)) rfl rfl ?_
            refine TrL.op (ok_ldE rfl (fun _ => rfl) rfl rfl rfl) rfl rfl ?_
            refine TrL.op (ok_move rfl (fun _ => rfl)) rfl rfl ?_
            refine TrL.op (ok_addW rfl (fun _ => rfl) rfl (fun _ => rfl)) rfl rfl ?_
            refine TrL.op (ok_idxE rfl (fun _ => rfl) rfl (fun _ => rfl) (fun _ => by omega)) rfl rfl ?_
            refine TrL.stE rfl rfl rfl rfl rfl ?_
            refine TrL.fin ?_
            refine End.nxt ?_
            refine Tr.seq ?_
            refine Tr.rg ?_
            refine TrL.op (ok_move rfl (fun _ => rfl)) rfl rfl ?_
            refine TrL.op (ok_move rfl (fun _ => rfl)) rfl rfl ?_
            refine TrL.op (ok_move rfl (fun _ => rfl)) rfl rfl ?_
            refine TrL.op (ok_add rfl (fun _ => rfl) rfl (fun _ => rfl) (fun _ => by omega)) rfl rfl ?_
            refine TrL.op (ok_move rfl (fun _ => rfl)) rfl rfl ?_
            refine TrL.op (ok_move rfl (fun _ => rfl)) rfl rfl ?_
            refine TrL.op (ok_move rfl (fun _ => rfl)) rfl rfl ?_
            refine TrL.op (ok_add rfl (fun _ => rfl) rfl (fun _ => rfl) (fun _ => by omega)) rfl rfl ?_
            refine TrL.op (ok_idxE rfl (fun _ => rfl) rfl (fun _ => rfl) (fun _ => by omega)) rfl rfl ?_
            refine TrL.op (ok_ldE rfl (fun _ => rfl) rfl rfl rfl) rfl rfl ?_
            refine TrL.op (ok_move rfl (fun _ => rfl)) rfl rfl ?_
            refine TrL.op (ok_addW rfl (fun _ => rfl) rfl (fun _ => rfl)) rfl rfl ?_
            refine TrL.op (ok_idxE rfl (fun _ => rfl) rfl (fun _ => rfl) (fun _ => by omega)) rfl rfl ?_
            refine TrL.stE rfl rfl rfl rfl rfl ?_
            refine TrL.fin ?_
            refine End.nxt ?_
            refine Tr.rg ?_
            refine TrL.op (ok_move rfl (fun _ => rfl)) rfl rfl ?_
            refine TrL.op (ok_move rfl (fun _ => rfl)) rfl rfl ?_
            refine TrL.op (ok_move rfl (fun _ => rfl)) rfl rfl ?_
            refine TrL.op (ok_move rfl (fun _ => rfl)) rfl rfl ?_
            refine TrL.op (ok_idxE rfl (fun _ => rfl) rfl (fun _ => rfl) (fun _ => by omega)) rfl rfl ?_
            refine TrL.op (ok_ldE rfl (fun _ => rfl) rfl rfl rfl) rfl rfl ?_
            refine TrL.op (ok_move rfl (fun _ => rfl)) rfl rfl ?_
            refine TrL.op (ok_subW rfl (fun _ => rfl) rfl (fun _ => rfl)) rfl rfl ?_
            refine TrL.op (ok_idxE rfl (fun _ => rfl) rfl (fun _ => rfl) (fun _ => by omega)) rfl rfl ?_
            refine TrL.stE rfl rfl rfl rfl rfl ?_
            refine TrL.fin ?_
            refine End.blk ?_
            refine End.blk ?_
            refine End.nxt ?_
            refine Tr.rg ?_
            refine TrL.op (ok_move rfl (fun _ => rfl)) rfl rfl ?_
            refine TrL.op (ok_add rfl (fun _ => rfl) rfl (fun _ => rfl) (fun _ => by omega)) rfl rfl ?_
            refine TrL.op (ok_assign rfl (fun _ => rfl)) rfl rfl ?_
            refine TrL.fin ?_
            exact End.lp (k + 1) (by first | rfl | omega | (simp; done) | (simp; omega) | assumption) (by omega) (Ent.mk (.i rfl (by first | rfl | omega | (simp; done) | (simp; omega) | assumption) <| .k rfl rfl <| .k rfl rfl <| .k rfl rfl <| .k rfl rfl <| .k rfl rfl <| .k rfl rfl <| .k rfl rfl <| .nil) (.a (by subst h26; exact letK_succ v (by omega) rfl W_one rfl W_one rfl W_mone) (by first | rfl | omega | (simp; done) | (simp; omega) | assumption) <| .k rfl <| .k rfl <| .k rfl <| .nil) rfl)
          · intro h26
            try simp only [decide_eq_false_iff_not] at h26
            refine Tr.seq ?_
            refine Tr.rg ?_
            refine TrL.op (ok_eql rfl (fun _ => rfl) rfl (fun _ => rfl)) rfl rfl ?_
            refine TrL.op (ok_assign rfl (fun _ => rfl)) rfl rfl ?_
            refine TrL.fin ?_
            refine End.nxt ?_
            refine Tr.cnd rfl ?_ ?_
            · intro h32
              try simp only [decide_eq_true_eq] at h32
              refine Tr.seq ?_
              refine Tr.rg ?_
              refine TrL.op (ok_move rfl (fun _ => rfl)) rfl rfl ?_
              refine TrL.op (ok_fldO rfl (fun _ => rfl)) rfl rfl ?_
              refine TrL.op (ok_ldB rfl (fun _ => rfl) rfl) rfl rfl ?_
              refine TrL.op (ok_move rfl (fun _ => rfl)) rfl rfl ?_
              first | refine TrL.op (ok_idxN rfl (fun _ => rfl) rfl (fun _ => rfl) rfl (fun _ => by omega)) rfl rfl ?_ | refine TrL.op (ok_idxP rfl (fun _ => rfl) rfl (fun _ => rfl) rfl (fun _ => by omega)) rfl rfl ?_
              refine TrL.op (ok_ldP rfl (fun _ => rfl) rfl) rfl rfl ?_
              refine TrL.op (ok_add rfl (fun _ => rfl) rfl (fun _ => rfl) (fun _ => by omega)) rfl rfl ?_
              refine TrL.op (ok_assign rfl (fun _ => rfl)) rfl rfl ?_
              refine TrL.fin ?_
              refine End.nxt ?_
              refine Tr.drawS 17 27 mixed (by kernel_rfl) ?_
              refine RunS.opA (ok_move rfl (fun _ => rfl)) (by kernel_rfl) rfl rfl ?_
              refine RunS.opA (ok_move rfl (fun _ => rfl)) (by kernel_rfl) rfl rfl ?_
              refine RunS.op (ok_move rfl (fun _ => rfl)) rfl rfl ?_
              refine RunS.op (ok_move rfl (fun _ => rfl)) rfl rfl ?_
              refine RunS.opA (ok_move rfl (fun _ => rfl)) (by kernel_rfl) rfl rfl ?_
              refine RunS.opA (ok_move rfl (fun _ => rfl)) (by kernel_rfl) rfl rfl ?_
              refine RunS.opA (ok_idxE rfl (fun _ => rfl) rfl (fun _ => rfl) (fun _ => by omega)) (by kernel_rfl) rfl rfl ?_
              refine RunS.opA (ok_ldE rfl (fun _ => rfl) rfl rfl rfl) (by kernel_rfl) rfl rfl ?_
              refine RunS.opA (ok_move rfl (fun _ => rfl)) (by kernel_rfl) rfl rfl ?_
              refine RunS.opA (ok_addW rfl (fun _ => rfl) rfl (fun _ => rfl)) (by kernel_rfl) rfl rfl ?_
              refine RunS.opA (ok_move rfl (fun _ => rfl)) (by kernel_rfl) rfl rfl ?_
              refine RunS.opA (ok_move rfl (fun _ => rfl)) (by kernel_rfl) rfl rfl ?_
              refine RunS.opA (ok_idxE rfl (fun _ => rfl) rfl (fun _ => rfl) (fun _ => by omega)) (by kernel_rfl) rfl rfl ?_
              refine RunS.opA (ok_ldE rfl (fun _ => rfl) rfl rfl rfl) (by kernel_rfl) rfl rfl ?_
              refine RunS.op (ok_move rfl (fun _ => rfl)) rfl rfl ?_
              refine RunS.op (ok_subW rfl (fun _ => rfl) rfl (fun _ => rfl)) rfl rfl ?_
              refine RunS.opA (ok_idxE rfl (fun _ => rfl) rfl (fun _ => rfl) (fun _ => by omega)) (by kernel_rfl) rfl rfl ?_
              refine RunS.z (st_E rfl rfl rfl rfl rfl) rfl rfl rfl ?_
              refine TrL.op (ok_idxE rfl (fun _ => rfl) rfl (fun _ => rfl) (fun _ => by omega)) rfl rfl ?_
              refine TrL.stE rfl rfl rfl rfl rfl ?_
              refine TrL.fin ?_
              refine End.blk ?_
              refine End.blk ?_
              refine End.nxt ?_
              refine Tr.rg ?_
              refine TrL.op (ok_move rfl (fun _ => rfl)) rfl rfl ?_
              refine TrL.op (ok_add rfl (fun _ => rfl) rfl (fun _ => rfl) (fun _ => by omega)) rfl rfl ?_
              refine TrL.op (ok_assign rfl (fun _ => rfl)) rfl rfl ?_
              refine TrL.fin ?_
              exact End.lp (k + 1) (by first | rfl | omega | (simp; done) | (simp; omega) | assumption) (by omega) (Ent.mk (.i rfl (by first | rfl | omega | (simp; done) | (simp; omega) | assumption) <| .k rfl rfl <| .k rfl rfl <| .k rfl rfl <| .k rfl rfl <| .k rfl rfl <| .k rfl rfl <| .k rfl rfl <| .nil) (.a (by subst h32; exact letK_two v (by omega) rfl rfl W_one rfl (par_sub (by show ((o.1.length : Int) + nth (invL o.2) k).toNat ≠ k; omega) (by rw [letK_len]; omega))) (by first | rfl | omega | (simp; done) | (simp; omega) | assumption) <| .k rfl <| .k rfl <| .k rfl <| .nil) rfl)
            · intro h32
              try simp only [decide_eq_false_iff_not] at h32
              refine Tr.seq ?_
              refine Tr.rg ?_
              refine TrL.op (ok_fldO rfl (fun _ => rfl)) rfl rfl ?_
              refine TrL.op (ok_ldB rfl (fun _ => rfl) rfl) rfl rfl ?_
              refine TrL.op (ok_move rfl (fun _ => rfl)) rfl rfl ?_
              first | refine TrL.op (ok_idxN rfl (fun _ => rfl) rfl (fun _ => rfl) rfl (fun _ => by omega)) rfl rfl ?_ | refine TrL.op (ok_idxP rfl (fun _ => rfl) rfl (fun _ => rfl) rfl (fun _ => by omega)) rfl rfl ?_
              refine TrL.op (ok_ldP rfl (fun _ => rfl) rfl) rfl rfl ?_
              refine TrL.op (ok_assign rfl (fun _ => rfl)) rfl rfl ?_
              refine TrL.fin ?_
              refine End.nxt ?_
              refine Tr.drawS 21 27 mixed (by kernel_rfl) ?_
              refine RunS.opA (ok_move rfl (fun _ => rfl)) (by kernel_rfl) rfl rfl ?_
              refine RunS.opA (ok_move rfl (fun _ => rfl)) (by kernel_rfl) rfl rfl ?_
              refine RunS.opA (ok_move rfl (fun _ => rfl)) (by kernel_rfl) rfl rfl ?_
              refine RunS.opA (ok_add rfl (fun _ => rfl) rfl (fun _ => rfl) (fun _ => by omega)) (by kernel_rfl) rfl rfl ?_
              refine RunS.op (ok_move rfl (fun _ => rfl)) rfl rfl ?_
              refine RunS.op (ok_move rfl (fun _ => rfl)) rfl rfl ?_
              refine RunS.opA (ok_move rfl (fun _ => rfl)) (by kernel_rfl) rfl rfl ?_
              refine RunS.opA (ok_move rfl (fun _ => rfl)) (by kernel_rfl) rfl rfl ?_
              refine RunS.opA (ok_move rfl (fun _ => rfl)) (by kernel_rfl) rfl rfl ?_
              refine RunS.opA (ok_add rfl (fun _ => rfl) rfl (fun _ => rfl) (fun _ => by omega)) (by kernel_rfl) rfl rfl ?_
              refine RunS.opA (ok_idxE rfl (fun _ => rfl) rfl (fun _ => rfl) (fun _ => by omega)) (by kernel_rfl) rfl rfl ?_
              refine RunS.opA (ok_ldE rfl (fun _ => rfl) rfl rfl rfl) (by kernel_rfl) rfl rfl ?_
              refine RunS.opA (ok_move rfl (fun _ => rfl)) (by kernel_rfl) rfl rfl ?_
              refine RunS.opA (ok_subW rfl (fun _ => rfl) rfl (fun _ => rfl)) (by kernel_rfl) rfl rfl ?_
              refine RunS.opA (ok_move rfl (fun _ => rfl)) (by kernel_rfl) rfl rfl ?_
              refine RunS.opA (ok_move rfl (fun _ => rfl)) (by kernel_rfl) rfl rfl ?_
              refine RunS.opA (ok_idxE rfl (fun _ => rfl) rfl (fun _ => rfl) (fun _ => by omega)) (by kernel_rfl) rfl rfl ?_
              refine RunS.opA (ok_ldE rfl (fun _ => rfl) rfl rfl rfl) (by kernel_rfl) rfl rfl ?_
              refine RunS.op (ok_move rfl (fun _ => rfl)) rfl rfl ?_
              refine RunS.op (ok_addW rfl (fun _ => rfl) rfl (fun _ => rfl)) rfl rfl ?_
              refine RunS.opA (ok_idxE rfl (fun _ => rfl) rfl (fun _ => rfl) (fun _ => by omega)) (by kernel_rfl) rfl rfl ?_
              refine RunS.z (st_E rfl rfl rfl rfl rfl) rfl rfl rfl ?_
              refine TrL.op (ok_idxE rfl (fun _ => rfl) rfl (fun _ => rfl) (fun _ => by omega)) rfl rfl ?_
              refine TrL.stE rfl rfl rfl rfl rfl ?_
              refine TrL.fin ?_
              refine End.blk ?_
              refine End.blk ?_
              refine End.nxt ?_
              refine Tr.rg ?_
              refine TrL.op (ok_move rfl (fun _ => rfl)) rfl rfl ?_
              refine TrL.op (ok_add rfl (fun _ => rfl) rfl (fun _ => rfl) (fun _ => by omega)) rfl rfl ?_
              refine TrL.op (ok_assign rfl (fun _ => rfl)) rfl rfl ?_
              refine TrL.fin ?_
              exact End.lp (k + 1) (by first | rfl | omega | (simp; done) | (simp; omega) | assumption) (by omega) (Ent.mk (.i rfl (by first | rfl | omega | (simp; done) | (simp; omega) | assumption) <| .k rfl rfl <| .k rfl rfl <| .k rfl rfl <| .k rfl rfl <| .k rfl rfl <| .k rfl rfl <| .k rfl rfl <| .nil) (.a (by (have hq := isLet_cases hx; obtain rfl : x = 115 := by omega); exact letK_two v (by omega) rfl rfl W_mone rfl (par_add (by show ((o.1.length : Int) + k).toNat ≠ (nth (invL o.1) k).toNat; omega) (by rw [letK_len]; omega))) (by first | rfl | omega | (simp; done) | (simp; omega) | assumption) <| .k rfl <| .k rfl <| .k rfl <| .nil) rfl)
      · intro h14
        replace h14 := Int.not_lt.1 (of_decide_eq_false h14)
        refine Tr.exit ?_
        refine Exs.thn ?_
        refine Exs.thn ?_
        refine Exs.here ?_
        exact End.cut (k) (by omega) (Ent.mk (.i rfl (by first | rfl | omega | (simp; done) | (simp; omega) | assumption) <| .k rfl rfl <| .k rfl rfl <| .k rfl rfl <| .k rfl rfl <| .k rfl rfl <| .k rfl rfl <| .k rfl rfl <| .nil) (.a (by first | rfl | omega | (simp; done) | (simp; omega) | assumption) (by first | rfl | omega | (simp; done) | (simp; omega) | assumption) <| .k rfl <| .k rfl <| .k rfl <| .nil) rfl)
    · rintro _ rfl
      refine End.norm (S' := [⟨12, true, _, _⟩, ⟨1, true, _, _⟩, ⟨2, true, _, _⟩, ⟨6, true, _, _⟩, ⟨8, true, _, _⟩, ⟨9, true, _, _⟩, ⟨10, true, _, _⟩, ⟨11, true, _, _⟩]) (M' := [⟨27, _, _⟩, ⟨6, _, _⟩, ⟨8, _, _⟩, ⟨11, _, _⟩]) rfl rfl ?_
      refine End.nxt ?_
      refine Tr.seq ?_
      refine Tr.rg ?_
      refine TrL.op (ok_ldBS rfl (fun _ => rfl)) rfl rfl ?_
      refine TrL.op (ok_move rfl (fun _ => rfl)) rfl rfl ?_
      refine TrL.stB rfl rfl rfl rfl ?_
      refine TrL.op (ok_assign rfl (fun _ => rfl)) rfl rfl ?_
      refine TrL.fin ?_
      refine End.nxt ?_
      refine Tr.frz 27 [7] ⟨rfl, trivial⟩ (by simp only [lenMax]; omega) rfl ?_
      refine Tr.ret ?_
      exact Rts.resC (fn := Tryd.f49) (ts := [7]) rfl rfl rfl (aggRd rfl (by rfl)) (.r rfl (by rfl) <| .nil)

set_option maxRecDepth 100000 in
set_option maxHeartbeats 1000000 in
theorem ct_rPush (o : Ori) (s : ByteArray) (c : List Int) (v : Valid o) (hw : (bs s).all isLet = true) (hwl : (bs s).length ≤ 20) (hc : c.length = 2 * o.1.length) : Ct Tryd.prog 19 [kRd eO o, kS s, kRd (eL eI) c] (kTup [kRd eO (pO (bs s) o), kRd (eL eI) (pC (bs s) o c)]) := by
  have hbl := bs_len (s := s)
  have hv0 := v.pos
  have hv1 := v.len
  have hv2 := v.le
  have hl1 := invL_len o.1
  have hl2 := invL_len o.2
  refine Ct.mk Tryd.func19 rfl Tryd.ntmps19 rfl (fun w J => ?_)
  refine Tr.seq ?_
  refine Tr.rg ?_
  refine TrL.new (ok_box 3 rfl (fun _ => rfl) rfl) rfl rfl rfl rfl ?_
  refine TrL.new (ok_alloc 6) rfl rfl rfl rfl ?_
  refine TrL.op (ok_assign rfl (fun _ => rfl)) rfl rfl ?_
  refine TrL.fin ?_
  refine End.nxt ?_
  refine Tr.seq ?_
  refine Tr.draw 10 mixed (by kernel_rfl) ?_
  refine RunD.op (ok_fldO rfl (fun _ => rfl)) rfl rfl ?_
  refine RunD.op (ok_ldB rfl (fun _ => rfl) rfl) rfl rfl ?_
  refine RunD.op (ok_call (fun hp => ct_CopyInts _ (by omega)) (.a rfl (fun _ => rfl) <| .nil)) rfl rfl ?_
  refine RunD.op (ok_fldO rfl (fun _ => rfl)) rfl rfl ?_
  refine RunD.op (ok_ldB rfl (fun _ => rfl) rfl) rfl rfl ?_
  refine RunD.op (ok_call (fun hp => ct_CopyInts _ (by omega)) (.a rfl (fun _ => rfl) <| .nil)) rfl rfl ?_
  refine RunD.op (ok_build (fun hp => .cons rfl rfl rfl <| .cons rfl rfl rfl <| .nil)) rfl rfl ?_
  refine RunD.op (ok_move rfl (fun _ => rfl)) rfl rfl ?_
  refine RunD.op (ok_call (fun hp => ct_CopyInts _ (by omega)) (.a rfl (fun _ => rfl) <| .nil)) rfl rfl ?_
  refine RunD.new (ok_alloc 8) rfl rfl rfl rfl ?_
  refine RunD.z ?_
  refine TrL.stB rfl rfl rfl rfl ?_
  refine TrL.op (ok_assign rfl (fun _ => rfl)) rfl rfl ?_
  refine TrL.fin ?_
  refine End.nxt ?_
  refine Tr.seq ?_
  refine Tr.seq ?_
  refine Tr.rg ?_
  refine TrL.op (ok_move rfl (fun _ => rfl)) rfl rfl ?_
  refine TrL.op (ok_lenS rfl (fun _ => rfl)) rfl rfl ?_
  refine TrL.op (ok_sub rfl (fun _ => rfl) rfl (fun _ => rfl) (fun _ => by omega)) rfl rfl ?_
  refine TrL.op (ok_assign rfl (fun _ => rfl)) rfl rfl ?_
  refine TrL.fin ?_
  refine End.nxt ?_
  refine Tr.for1 (σ := Nat) [⟨1, true, _, _⟩, ⟨6, true, _, _⟩, ⟨8, true, _, _⟩] [⟨6, _, _⟩] (fun j => [⟨9, true, [], kRd (eL eI) (pC ((bs s).drop j) o c)⟩, ⟨10, true, [], kI ((j : Int) - 1)⟩]) (fun j => [⟨8, [], cBlk [kRd (eL eI) (pO ((bs s).drop j) o).1, kRd (eL eI) (pO ((bs s).drop j) o).2]⟩]) (fun j => j ≤ (bs s).length) (fun j => j = 0) (fun j => j) ((bs s).length) (by first | rfl | omega | (simp; done) | (simp; omega) | assumption) (Ent.mk (.r rfl (by rw [List.drop_length]; rfl) <| .i rfl (by first | rfl | omega | (simp; done) | (simp; omega) | assumption) <| .k rfl rfl <| .k rfl rfl <| .k rfl rfl <| .nil) (.e (by rw [List.drop_length]; rfl) rfl <| .k rfl <| .nil) rfl) ?_ ?_
  · intro j hR0
    refine Tr.norm (S' := [⟨9, true, _, _⟩, ⟨10, true, _, _⟩, ⟨1, true, _, _⟩, ⟨6, true, _, _⟩, ⟨8, true, _, _⟩]) (M' := [⟨8, _, _⟩, ⟨6, _, _⟩]) rfl rfl ?_
    have hvv := pO_valid v ((bs s).drop j)
    refine Tr.seq ?_
    refine Tr.seq ?_
    refine Tr.rg ?_
    refine TrL.op (ok_move rfl (fun _ => rfl)) rfl rfl ?_
    refine TrL.op (ok_geq rfl (fun _ => rfl) rfl (fun _ => rfl)) rfl rfl ?_
    refine TrL.fin ?_
    refine End.nxt ?_
    refine Tr.cnd rfl ?_ ?_
    · intro h3
      replace h3 := of_decide_eq_true h3
      refine Tr.skip ?_
      refine End.nxt ?_
      refine Tr.seq ?_
      refine Tr.blk ?_
      refine Tr.drawS 9 8 mixed (by kernel_rfl) ?_
      refine RunS.opA (ok_ldBS rfl (fun _ => rfl)) (by kernel_rfl) rfl rfl ?_
      refine RunS.opA (ok_move rfl (fun _ => rfl)) (by kernel_rfl) rfl rfl ?_
      refine RunS.opA (ok_move rfl (fun _ => rfl)) (by kernel_rfl) rfl rfl ?_
      refine RunS.opA (ok_idxS rfl (fun _ => rfl) (i := j - 1) (by rw [show ((j - 1 : Nat) : Int) = (j : Int) - 1 by omega]; rfl) (fun _ => rfl) (fun _ => by omega)) (by kernel_rfl) rfl rfl ?_
      refine RunS.opA (ok_move rfl (fun _ => rfl)) (by kernel_rfl) rfl rfl ?_
      refine RunS.opA (ok_call (fun hp => ct_rletter _ _ _ hvv.1 (all_drop hw (j := j - 1) (by omega)) (by rw [pC_len v hc, hvv.2])) (.s rfl (fun _ => rfl) rfl <| .a rfl (fun _ => rfl) <| .a rfl (fun _ => rfl) <| .nil)) (by kernel_rfl) rfl rfl ?_
      refine RunS.opA (ok_move rfl (fun _ => rfl)) (by kernel_rfl) rfl rfl ?_
      refine RunS.opA (ok_ext rfl (fun _ => rfl) rfl) (by kernel_rfl) rfl rfl ?_
      refine RunS.op (ok_ext rfl (fun _ => rfl) rfl) rfl rfl ?_
      refine RunS.z (st_B rfl rfl rfl) rfl rfl rfl ?_
      refine TrL.op (ok_assign rfl (fun _ => rfl)) rfl rfl ?_
      refine TrL.fin ?_
      refine End.blk ?_
      refine End.nxt ?_
      refine Tr.rg ?_
      refine TrL.op (ok_move rfl (fun _ => rfl)) rfl rfl ?_
      refine TrL.op (ok_sub rfl (fun _ => rfl) rfl (fun _ => rfl) (fun _ => by omega)) rfl rfl ?_
      refine TrL.op (ok_assign rfl (fun _ => rfl)) rfl rfl ?_
      refine TrL.fin ?_
      have hdr := drop_cons (ws := bs s) (i := j) (by omega) (by omega)
      exact End.lp (j - 1) (by first | rfl | omega | (simp; done) | (simp; omega) | assumption) (by omega) (Ent.mk (.r rfl (by rw [hdr]; rfl) <| .i rfl (by first | rfl | omega | (simp; done) | (simp; omega) | assumption) <| .k rfl rfl <| .k rfl rfl <| .k rfl rfl <| .nil) (.e (by rw [hdr]; rfl) rfl <| .k rfl <| .nil) rfl)
    · intro h3
      replace h3 := Int.not_le.1 (of_decide_eq_false h3)
      refine Tr.exit ?_
      refine Exs.thn ?_
      refine Exs.thn ?_
      refine Exs.here ?_
      exact End.cut (j) (by omega) (Ent.mk (.r rfl (by first | rfl | omega | (simp; done) | (simp; omega) | assumption) <| .i rfl (by first | rfl | omega | (simp; done) | (simp; omega) | assumption) <| .k rfl rfl <| .k rfl rfl <| .k rfl rfl <| .nil) (.k rfl <| .k rfl <| .nil) rfl)
  · rintro _ rfl
    refine End.norm (S' := [⟨9, true, _, _⟩, ⟨10, true, _, _⟩, ⟨1, true, _, _⟩, ⟨6, true, _, _⟩, ⟨8, true, _, _⟩]) (M' := [⟨8, _, _⟩, ⟨6, _, _⟩]) rfl rfl ?_
    refine End.nxt ?_
    refine Tr.seq ?_
    refine Tr.rg ?_
    refine TrL.op (ok_ldBS rfl (fun _ => rfl)) rfl rfl ?_
    refine TrL.op (ok_move rfl (fun _ => rfl)) rfl rfl ?_
    refine TrL.stB rfl rfl rfl rfl ?_
    refine TrL.op (ok_assign rfl (fun _ => rfl)) rfl rfl ?_
    refine TrL.fin ?_
    refine End.nxt ?_
    refine Tr.ret ?_
    exact Rts.resC (fn := Tryd.f19) (ts := [7]) rfl rfl rfl (aggRd rfl (by rfl)) (.r rfl (by rfl) <| .nil)

set_option maxRecDepth 100000 in
theorem ct_HomologyHolonomies (o : Ori) (s : ByteArray) (c : List Int) (hs : s.size ≤ reachBytes) : Ct Tryd.prog 3 [kRd eO o, kS s, kRd (eL eI) c] (kB true) := by
  simp only [reachBytes] at hs
  refine Ct.mk Tryd.func3 rfl Tryd.ntmps3 rfl (fun w J => ?_)
  refine Tr.seq ?_
  refine Tr.rg ?_
  refine TrL.new (ok_box 3 rfl (fun _ => rfl) rfl) rfl rfl rfl rfl ?_
  refine TrL.op (ok_assign rfl (fun _ => rfl)) rfl rfl ?_
  refine TrL.fin ?_
  refine End.nxt ?_
  refine Tr.seq ?_
  refine Tr.seq ?_
  refine Tr.rg ?_
  refine TrL.op (ok_call (fun hp => ct_awake) (.nil)) rfl rfl ?_
  refine TrL.op (ok_not rfl (fun _ => rfl)) rfl rfl ?_
  refine TrL.fin ?_
  refine End.nxt ?_
  refine Tr.cnd rfl ?_ ?_
  · intro h1
    simp at h1
  · intro h1
    refine Tr.skip ?_
    refine End.nxt ?_
    refine Tr.seq ?_
    refine Tr.seq ?_
    refine Tr.rg ?_
    refine TrL.op (ok_ldBS rfl (fun _ => rfl)) rfl rfl ?_
    refine TrL.op (ok_call (fun hp => ct_Small _) (.s rfl (fun _ => rfl) rfl <| .nil)) rfl rfl ?_
    refine TrL.op (ok_not rfl (fun _ => rfl)) rfl rfl ?_
    refine TrL.op (ok_move rfl (fun _ => rfl)) rfl rfl ?_
    refine TrL.gd rfl rfl rfl (ok_move rfl (fun _ => rfl)) rfl rfl ?_
    refine TrL.gd rfl rfl rfl (ok_call (fun hp => ct_short _) (.a rfl id <| .nil)) rfl rfl ?_
    refine TrL.gd rfl rfl rfl (ok_not rfl id) rfl rfl ?_
    refine TrL.op (ok_or rfl (fun _ => rfl) rfl (fun hp h => gdF2 ((fun _ => rfl) hp) h)) rfl rfl ?_
    refine TrL.op (ok_move rfl (fun _ => rfl)) rfl rfl ?_
    refine TrL.gd rfl rfl rfl (ok_move rfl (fun _ => rfl)) rfl rfl ?_
    refine TrL.gd rfl rfl rfl (ok_lenS rfl id) rfl rfl ?_
    refine TrL.gd rfl rfl rfl (ok_gtr rfl id rfl (fun _ => rfl)) rfl rfl ?_
    refine TrL.op (ok_or rfl (fun _ => rfl) rfl (fun hp h => gdF2 ((fun _ => rfl) hp) h)) rfl rfl ?_
    refine TrL.fin ?_
    refine End.nxt ?_
    refine Tr.cnd rfl ?_ ?_
    · intro h3
      try simp only [decide_eq_true_eq, decide_eq_false_iff_not, Bool.or_eq_true, Bool.not_eq_true', Nat.not_le] at h3
      refine Tr.seq ?_
      refine Tr.rg ?_
      refine TrL.op (ok_assign rfl (fun _ => rfl)) rfl rfl ?_
      refine TrL.fin ?_
      refine End.nxt ?_
      refine Tr.ret ?_
      refine Rts.thn ?_
      exact Rts.res1 (fn := Tryd.f3) rfl (.b rfl (by rfl) <| .nil)
    · intro h3
      try simp only [decide_eq_true_eq, decide_eq_false_iff_not, Bool.not_eq_false', Bool.or_eq_false_iff, Int.not_lt] at h3
      refine Tr.skip ?_
      refine End.nxt ?_
      refine Tr.seq ?_
      refine Tr.rg ?_
      refine TrL.op (ok_ldBS rfl (fun _ => rfl)) rfl rfl ?_
      refine TrL.op (ok_move rfl (fun _ => rfl)) rfl rfl ?_
      refine TrL.op (ok_call (fun hp => ct_hHolonomy _ _) (.s rfl (fun _ => rfl) rfl <| .a rfl (fun _ => rfl) <| .nil)) rfl rfl ?_
      refine TrL.op (ok_move rfl (fun _ => rfl)) rfl rfl ?_
      refine TrL.op (ok_ext rfl (fun _ => rfl) rfl) rfl rfl ?_
      refine TrL.op (ok_ext rfl (fun _ => rfl) rfl) rfl rfl ?_
      refine TrL.op (ok_ext rfl (fun _ => rfl) rfl) rfl rfl ?_
      refine TrL.op (ok_assign rfl (fun _ => rfl)) rfl rfl ?_
      refine TrL.op (ok_assign rfl (fun _ => rfl)) rfl rfl ?_
      refine TrL.op (ok_assign rfl (fun _ => rfl)) rfl rfl ?_
      refine TrL.fin ?_
      refine End.nxt ?_
      refine Tr.seq ?_
      refine Tr.rg ?_
      refine TrL.op (ok_ldBS rfl (fun _ => rfl)) rfl rfl ?_
      refine TrL.op (ok_move rfl (fun _ => rfl)) rfl rfl ?_
      refine TrL.op (ok_move rfl (fun _ => rfl)) rfl rfl ?_
      refine TrL.op (ok_call (fun hp => ct_hPush _ _ _ (by omega)) (.s rfl (fun _ => rfl) rfl <| .a rfl (fun _ => rfl) <| .a rfl (fun _ => rfl) <| .nil)) rfl rfl ?_
      refine TrL.op (ok_move rfl (fun _ => rfl)) rfl rfl ?_
      refine TrL.op (ok_ext rfl (fun _ => rfl) rfl) rfl rfl ?_
      refine TrL.op (ok_ext rfl (fun _ => rfl) rfl) rfl rfl ?_
      refine TrL.op (ok_ext rfl (fun _ => rfl) rfl) rfl rfl ?_
      refine TrL.new (ok_alloc 10) rfl rfl rfl rfl ?_
      refine TrL.stB rfl rfl rfl rfl ?_
      refine TrL.op (ok_assign rfl (fun _ => rfl)) rfl rfl ?_
      refine TrL.op (ok_assign rfl (fun _ => rfl)) rfl rfl ?_
      refine TrL.fin ?_
      refine End.nxt ?_
      refine Tr.seq ?_
      refine Tr.rg ?_
      refine TrL.op (ok_ldBS rfl (fun _ => rfl)) rfl rfl ?_
      refine TrL.op (ok_call (fun hp => ct_rCheck _) (.s rfl (fun _ => rfl) rfl <| .nil)) rfl rfl ?_
      refine TrL.op (ok_assign rfl (fun _ => rfl)) rfl rfl ?_
      refine TrL.fin ?_
      refine End.nxt ?_
      refine Tr.meet2 (σ := Unit) [⟨1, true, _, _⟩, ⟨2, true, _, _⟩, ⟨3, true, _, _⟩, ⟨7, true, _, _⟩, ⟨8, true, _, _⟩, ⟨9, true, _, _⟩, ⟨10, true, _, _⟩, ⟨11, true, _, _⟩, ⟨12, true, _, _⟩] [⟨3, _, _⟩, ⟨10, _, _⟩] (.k rfl rfl <| .k rfl rfl <| .k rfl rfl <| .k rfl rfl <| .k rfl rfl <| .k rfl rfl <| .k rfl rfl <| .k rfl rfl <| .k rfl rfl <| .nil) (.k rfl <| .k rfl <| .nil) (fun _ => [⟨13, true, [], kI (orE (chkO o) (chkC o.1.length c))⟩]) (fun _ => []) (fun _ => True) ?_ ?_
      · skip
        refine Tr.seq ?_
        refine Tr.rg ?_
        refine TrL.op (ok_move rfl (fun _ => rfl)) rfl rfl ?_
        refine TrL.op (ok_eql rfl (fun _ => rfl) rfl (fun _ => rfl)) rfl rfl ?_
        refine TrL.fin ?_
        refine End.nxt ?_
        refine Tr.cnd rfl ?_ ?_
        · intro h8
          replace h8 := of_decide_eq_true h8
          have v : Valid o := valid_of h8
          refine Tr.rg ?_
          refine TrL.op (ok_ldBS rfl (fun _ => rfl)) rfl rfl ?_
          refine TrL.op (ok_call (fun hp => ct_rOpen _ v) (.s rfl (fun _ => rfl) rfl <| .nil)) rfl rfl ?_
          refine TrL.op (ok_move rfl (fun _ => rfl)) rfl rfl ?_
          refine TrL.op (ok_call (fun hp => ct_rCheckChain _ _ v) (.a rfl (fun _ => rfl) <| .a rfl (fun _ => rfl) <| .nil)) rfl rfl ?_
          refine TrL.op (ok_assign rfl (fun _ => rfl)) rfl rfl ?_
          refine TrL.fin ?_
          exact End.cut (()) (by first | rfl | omega | (simp; done) | (simp; omega) | assumption) (Ent.mk (.i rfl (orE_r h8).symm <| .k rfl rfl <| .k rfl rfl <| .k rfl rfl <| .k rfl rfl <| .k rfl rfl <| .k rfl rfl <| .k rfl rfl <| .k rfl rfl <| .k rfl rfl <| .nil) (.k rfl <| .k rfl <| .nil) rfl)
        · intro h8
          replace h8 := of_decide_eq_false h8
          refine Tr.skip ?_
          exact End.cut (()) (by first | rfl | omega | (simp; done) | (simp; omega) | assumption) (Ent.mk (.i rfl (orE_l h8).symm <| .k rfl rfl <| .k rfl rfl <| .k rfl rfl <| .k rfl rfl <| .k rfl rfl <| .k rfl rfl <| .k rfl rfl <| .k rfl rfl <| .k rfl rfl <| .nil) (.k rfl <| .k rfl <| .nil) rfl)
      · intro _ hM
        refine Tr.norm (S' := [⟨13, true, _, _⟩, ⟨1, true, _, _⟩, ⟨2, true, _, _⟩, ⟨3, true, _, _⟩, ⟨7, true, _, _⟩, ⟨8, true, _, _⟩, ⟨9, true, _, _⟩, ⟨10, true, _, _⟩, ⟨11, true, _, _⟩, ⟨12, true, _, _⟩]) (M' := [⟨3, _, _⟩, ⟨10, _, _⟩]) rfl rfl ?_
        refine Tr.seq ?_
        refine Tr.seq ?_
        refine Tr.rg ?_
        refine TrL.op (ok_move rfl (fun _ => rfl)) rfl rfl ?_
        refine TrL.op (ok_neq rfl (fun _ => rfl) rfl (fun _ => rfl)) rfl rfl ?_
        refine TrL.fin ?_
        refine End.nxt ?_
        refine Tr.cnd rfl ?_ ?_
        · intro h10
          replace h10 := of_decide_eq_true h10
          have hE1 : orE (chkO o) (orE (chkC o.1.length c) (chkW (bs s))) = orE (chkO o) (chkC o.1.length c) := by rw [orE_assoc, orE_l h10]
          have hE : orE (chkO o) (orE (chkC o.1.length c) (chkW (bs s))) ≠ 0 := by (rw [hE1]; exact h10)
          refine Tr.seq ?_
          refine Tr.rg ?_
          have hz1 : (if orE (chkO o) (orE (chkC o.1.length c) (chkW (bs s))) = 0 then pO (bs s) o else ([], [])).1.length = 0 := by (rw [if_neg hE]; rfl)
          have hz2 : (if orE (chkO o) (orE (chkC o.1.length c) (chkW (bs s))) = 0 then pO (bs s) o else ([], [])).2.length = 0 := by (rw [if_neg hE]; rfl)
          have hz3 : (if orE (chkO o) (orE (chkC o.1.length c) (chkW (bs s))) = 0 then pC (bs s) o c else []).length = 0 := by (rw [if_neg hE]; rfl)
          refine TrL.op (ok_move rfl (fun _ => rfl)) rfl rfl ?_
          refine TrL.op (ok_move rfl (fun _ => rfl)) rfl rfl ?_
          refine TrL.op (ok_eql rfl (fun _ => rfl) rfl (fun _ => rfl)) rfl rfl ?_
          refine TrL.op (ok_move rfl (fun _ => rfl)) rfl rfl ?_
          refine TrL.gd rfl rfl rfl (ok_move rfl (fun _ => rfl)) rfl rfl ?_
          refine TrL.gd rfl rfl rfl (ok_move rfl (fun _ => rfl)) rfl rfl ?_
          refine TrL.gd rfl rfl rfl (ok_eql rfl id rfl id) rfl rfl ?_
          refine TrL.op (ok_and rfl (fun _ => rfl) rfl (fun hp h => gdT2 ((fun _ => rfl) hp) h)) rfl rfl ?_
          refine TrL.op (ok_move rfl (fun _ => rfl)) rfl rfl ?_
          refine TrL.gd rfl rfl rfl (ok_move rfl (fun _ => rfl)) rfl rfl ?_
          refine TrL.gd rfl rfl rfl (ok_eql rfl id rfl (fun _ => rfl)) rfl rfl ?_
          refine TrL.op (ok_and rfl (fun _ => rfl) rfl (fun hp h => gdT2 ((fun _ => rfl) hp) h)) rfl rfl ?_
          refine TrL.op (ok_move rfl (fun _ => rfl)) rfl rfl ?_
          refine TrL.gd rfl rfl rfl (ok_move rfl (fun _ => rfl)) rfl rfl ?_
          refine TrL.gd rfl rfl rfl (ok_eql rfl id rfl (fun _ => rfl)) rfl rfl ?_
          refine TrL.op (ok_and rfl (fun _ => rfl) rfl (fun hp h => gdT2 ((fun _ => rfl) hp) h)) rfl rfl ?_
          refine TrL.op (ok_move rfl (fun _ => rfl)) rfl rfl ?_
          refine TrL.gd rfl rfl rfl (ok_fldO rfl (fun _ => rfl)) rfl rfl ?_
          refine TrL.gd rfl rfl rfl (ok_ldB rfl id rfl) rfl rfl ?_
          refine TrL.gd rfl rfl rfl (ok_lenJ rfl id) rfl rfl ?_
          refine TrL.gd rfl rfl rfl (ok_fldO rfl (fun _ => rfl)) rfl rfl ?_
          refine TrL.gd rfl rfl rfl (ok_ldB rfl id rfl) rfl rfl ?_
          refine TrL.gd rfl rfl rfl (ok_lenJ rfl id) rfl rfl ?_
          refine TrL.gd rfl rfl rfl (ok_add rfl id rfl id (fun hp => by simp at hp; omega)) rfl rfl ?_
          refine TrL.gd rfl rfl rfl (ok_move rfl (fun _ => rfl)) rfl rfl ?_
          refine TrL.gd rfl rfl rfl (ok_lenJ rfl id) rfl rfl ?_
          refine TrL.gd rfl rfl rfl (ok_add rfl id rfl id (fun hp => by simp at hp; omega)) rfl rfl ?_
          refine TrL.gd rfl rfl rfl (ok_eql rfl id rfl (fun _ => rfl)) rfl rfl ?_
          refine TrL.op (ok_and rfl (fun _ => rfl) rfl (fun hp h => gdT2 ((fun _ => rfl) hp) h)) rfl rfl ?_
          refine TrL.op (ok_assign rfl (fun _ => rfl)) rfl rfl ?_
          refine TrL.fin ?_
          refine End.nxt ?_
          refine Tr.ret ?_
          refine Rts.thn ?_
          exact Rts.res1 (fn := Tryd.f3) rfl (.b rfl (by simp [hE1, h10]) <| .nil)
        · intro h10
          replace h10 := Classical.not_not.1 (of_decide_eq_false h10)
          have v : Valid o := valid_of (orE_zero.1 h10).1
          have hcl := chkC_len (orE_zero.1 h10).2
          have hE1 : orE (chkO o) (orE (chkC o.1.length c) (chkW (bs s))) = chkW (bs s) := by rw [orE_assoc, orE_r h10]
          refine Tr.skip ?_
          refine End.nxt ?_
          refine Tr.seq ?_
          refine Tr.rg ?_
          refine TrL.op (ok_ldBS rfl (fun _ => rfl)) rfl rfl ?_
          refine TrL.op (ok_call (fun hp => ct_rOpen _ v) (.s rfl (fun _ => rfl) rfl <| .nil)) rfl rfl ?_
          refine TrL.op (ok_move rfl (fun _ => rfl)) rfl rfl ?_
          refine TrL.op (ok_call (fun hp => ct_rHolonomy _ _ v (by assumption)) (.a rfl (fun _ => rfl) <| .a rfl (fun _ => rfl) <| .nil)) rfl rfl ?_
          refine TrL.op (ok_move rfl (fun _ => rfl)) rfl rfl ?_
          refine TrL.op (ok_ext rfl (fun _ => rfl) rfl) rfl rfl ?_
          refine TrL.op (ok_ext rfl (fun _ => rfl) rfl) rfl rfl ?_
          refine TrL.op (ok_assign rfl (fun _ => rfl)) rfl rfl ?_
          refine TrL.op (ok_assign rfl (fun _ => rfl)) rfl rfl ?_
          refine TrL.fin ?_
          refine End.nxt ?_
          refine Tr.seq ?_
          refine Tr.seq ?_
          refine Tr.rg ?_
          refine TrL.op (ok_move rfl (fun _ => rfl)) rfl rfl ?_
          refine TrL.op (ok_neq rfl (fun _ => rfl) rfl (fun _ => rfl)) rfl rfl ?_
          refine TrL.op (ok_move rfl (fun _ => rfl)) rfl rfl ?_
          refine TrL.gd rfl rfl rfl (ok_move rfl (fun _ => rfl)) rfl rfl ?_
          refine TrL.gd rfl rfl rfl (ok_move rfl (fun _ => rfl)) rfl rfl ?_
          refine TrL.gd rfl rfl rfl (ok_neq rfl id rfl id) rfl rfl ?_
          refine TrL.op (ok_or rfl (fun _ => rfl) rfl (fun hp h => gdF2 ((fun _ => rfl) hp) h)) rfl rfl ?_
          refine TrL.op (ok_move rfl (fun _ => rfl)) rfl rfl ?_
          refine TrL.gd rfl rfl rfl (ok_move rfl (fun _ => rfl)) rfl rfl ?_
          refine TrL.gd rfl rfl rfl (ok_move rfl (fun _ => rfl)) rfl rfl ?_
          refine TrL.gd rfl rfl rfl (ok_neq rfl id rfl id) rfl rfl ?_
          refine TrL.op (ok_or rfl (fun _ => rfl) rfl (fun hp h => gdF2 ((fun _ => rfl) hp) h)) rfl rfl ?_
          refine TrL.fin ?_
          refine End.nxt ?_
          refine Tr.cnd rfl ?_ ?_
          · intro h13
            try simp only [decide_eq_true_eq, Bool.or_eq_true, ne_eq] at h13
            simp [h10] at h13
          · intro h13
            try simp only [decide_eq_false_iff_not, Bool.or_eq_false_iff, ne_eq, Classical.not_not] at h13
            refine Tr.skip ?_
            refine End.nxt ?_
            refine Tr.seq ?_
            refine Tr.seq ?_
            refine Tr.rg ?_
            refine TrL.op (ok_move rfl (fun _ => rfl)) rfl rfl ?_
            refine TrL.op (ok_call (fun hp => ct_rCheckWord _) (.a rfl (fun _ => rfl) <| .nil)) rfl rfl ?_
            refine TrL.op (ok_assign rfl (fun _ => rfl)) rfl rfl ?_
            refine TrL.fin ?_
            refine End.nxt ?_
            refine Tr.seq ?_
            refine Tr.rg ?_
            refine TrL.op (ok_move rfl (fun _ => rfl)) rfl rfl ?_
            refine TrL.op (ok_neq rfl (fun _ => rfl) rfl (fun _ => rfl)) rfl rfl ?_
            refine TrL.fin ?_
            refine End.nxt ?_
            refine Tr.cnd rfl ?_ ?_
            · intro h16
              replace h16 := of_decide_eq_true h16
              have hE : orE (chkO o) (orE (chkC o.1.length c) (chkW (bs s))) ≠ 0 := by (rw [hE1]; exact h16)
              refine Tr.seq ?_
              refine Tr.rg ?_
              have hz1 : (if orE (chkO o) (orE (chkC o.1.length c) (chkW (bs s))) = 0 then pO (bs s) o else ([], [])).1.length = 0 := by (rw [if_neg hE]; rfl)
              have hz2 : (if orE (chkO o) (orE (chkC o.1.length c) (chkW (bs s))) = 0 then pO (bs s) o else ([], [])).2.length = 0 := by (rw [if_neg hE]; rfl)
              have hz3 : (if orE (chkO o) (orE (chkC o.1.length c) (chkW (bs s))) = 0 then pC (bs s) o c else []).length = 0 := by (rw [if_neg hE]; rfl)
              refine TrL.op (ok_move rfl (fun _ => rfl)) rfl rfl ?_
              refine TrL.op (ok_move rfl (fun _ => rfl)) rfl rfl ?_
              refine TrL.op (ok_eql rfl (fun _ => rfl) rfl (fun _ => rfl)) rfl rfl ?_
              refine TrL.op (ok_move rfl (fun _ => rfl)) rfl rfl ?_
              refine TrL.gd rfl rfl rfl (ok_fldO rfl (fun _ => rfl)) rfl rfl ?_
              refine TrL.gd rfl rfl rfl (ok_ldB rfl id rfl) rfl rfl ?_
              refine TrL.gd rfl rfl rfl (ok_lenJ rfl id) rfl rfl ?_
              refine TrL.gd rfl rfl rfl (ok_fldO rfl (fun _ => rfl)) rfl rfl ?_
              refine TrL.gd rfl rfl rfl (ok_ldB rfl id rfl) rfl rfl ?_
              refine TrL.gd rfl rfl rfl (ok_lenJ rfl id) rfl rfl ?_
              refine TrL.gd rfl rfl rfl (ok_add rfl id rfl id (fun hp => by simp at hp; omega)) rfl rfl ?_
              refine TrL.gd rfl rfl rfl (ok_move rfl (fun _ => rfl)) rfl rfl ?_
              refine TrL.gd rfl rfl rfl (ok_lenJ rfl id) rfl rfl ?_
              refine TrL.gd rfl rfl rfl (ok_add rfl id rfl id (fun hp => by simp at hp; omega)) rfl rfl ?_
              refine TrL.gd rfl rfl rfl (ok_eql rfl id rfl (fun _ => rfl)) rfl rfl ?_
              refine TrL.op (ok_and rfl (fun _ => rfl) rfl (fun hp h => gdT2 ((fun _ => rfl) hp) h)) rfl rfl ?_
              refine TrL.op (ok_assign rfl (fun _ => rfl)) rfl rfl ?_
              refine TrL.fin ?_
              refine End.nxt ?_
              refine Tr.ret ?_
              refine Rts.thn ?_
              exact Rts.res1 (fn := Tryd.f3) rfl (.b rfl (by simp [hE1, h16]) <| .nil)
            · intro h16
              replace h16 := Classical.not_not.1 (of_decide_eq_false h16)
              have hw := chkW_zero h16
              refine Tr.skip ?_
              refine End.nxt ?_
              refine Tr.seq ?_
              refine Tr.rg ?_
              refine TrL.op (ok_ldBS rfl (fun _ => rfl)) rfl rfl ?_
              refine TrL.op (ok_move rfl (fun _ => rfl)) rfl rfl ?_
              refine TrL.op (ok_move rfl (fun _ => rfl)) rfl rfl ?_
              refine TrL.op (ok_call (fun hp => ct_rPush _ _ _ v hw.2 hw.1 hcl) (.s rfl (fun _ => rfl) rfl <| .a rfl (fun _ => rfl) <| .a rfl (fun _ => rfl) <| .nil)) rfl rfl ?_
              refine TrL.op (ok_move rfl (fun _ => rfl)) rfl rfl ?_
              refine TrL.op (ok_ext rfl (fun _ => rfl) rfl) rfl rfl ?_
              refine TrL.op (ok_ext rfl (fun _ => rfl) rfl) rfl rfl ?_
              refine TrL.new (ok_alloc 17) rfl rfl rfl rfl ?_
              refine TrL.stB rfl rfl rfl rfl ?_
              refine TrL.op (ok_assign rfl (fun _ => rfl)) rfl rfl ?_
              refine TrL.fin ?_
              refine End.nxt ?_
              refine Tr.seq ?_
              refine Tr.rg ?_
              refine TrL.op (ok_move rfl (fun _ => rfl)) rfl rfl ?_
              refine TrL.op (ok_eql rfl (fun _ => rfl) rfl (fun _ => rfl)) rfl rfl ?_
              refine TrL.op (ok_move rfl (fun _ => rfl)) rfl rfl ?_
              refine TrL.gd rfl rfl rfl (ok_ldBS rfl (fun _ => rfl)) rfl rfl ?_
              refine TrL.gd rfl rfl rfl (ok_ldBS rfl (fun _ => rfl)) rfl rfl ?_
              refine TrL.gd rfl rfl rfl (ok_call (fun hp => ct_SameO _ _) (.s rfl id rfl <| .s rfl id rfl <| .nil)) rfl rfl ?_
              refine TrL.op (ok_and rfl (fun _ => rfl) rfl (fun hp h => gdT2 ((fun _ => rfl) hp) h)) rfl rfl ?_
              refine TrL.op (ok_move rfl (fun _ => rfl)) rfl rfl ?_
              refine TrL.gd rfl rfl rfl (ok_move rfl (fun _ => rfl)) rfl rfl ?_
              refine TrL.gd rfl rfl rfl (ok_move rfl (fun _ => rfl)) rfl rfl ?_
              refine TrL.gd rfl rfl rfl (ok_call (fun hp => ct_Ints _ _) (.a rfl id <| .a rfl id <| .nil)) rfl rfl ?_
              refine TrL.op (ok_and rfl (fun _ => rfl) rfl (fun hp h => gdT2 ((fun _ => rfl) hp) h)) rfl rfl ?_
              refine TrL.op (ok_assign rfl (fun _ => rfl)) rfl rfl ?_
              refine TrL.fin ?_
              refine End.nxt ?_
              refine Tr.ret ?_
              exact Rts.res1 (fn := Tryd.f3) rfl (.b rfl (by have hE := hE1.trans h16; simp [hE]) <| .nil)

end Go.Fl

/- From the row's reading of the arguments to ours, and from a contract to the row's last step. -/
namespace Go.Fl
open Go Go.RowKit Go.ChangeShapes Go.WideShapes Go.ChangeAt
/-! ### 1. Arguments -/
def memJ (W : World) : JV := fun b o => W.cell? ⟨b, o, none⟩
theorem memJ_im (W : World) : Im (memJ W) W := fun _ _ _ h => h
/-- What the row reads, in our words; 'φ': what else is known of it. -/
structure RdT (P : Program) (t : TypeId) {α : Type} (e : Enc α) (φ : α → Prop) : Prop where
  imp : ∀ {H : Type} {enc : TypeId × Value → H} {W : World} {n : Nat} {cs : List Value} {x : DataW H × List MemPlace},
  DataW.trod enc P W 0 (fun _ => true) true n t cs = some x → (∀ m ∈ x.1.weights P t, m ≤ reachBytes) → ∃ a, e.rd (memJ W) cs a ∧ φ a
def AndP {α β : Type} (φ : α → Prop) (ψ : β → Prop) : α × β → Prop := fun x => φ x.1 ∧ ψ x.2
def UnitP : Unit → Prop := fun _ => True
def BoolP : Bool → Prop := fun _ => True
def StrP : ByteArray → Prop := fun s => s.size ≤ reachBytes
def ListP {α : Type} [Inhabited α] (φ : α → Prop) : List α → Prop := fun xs => xs.length ≤ reachBytes ∧ ∀ i, i < xs.length → φ (nth xs i)
def okI (k : IntKind) (n : Int) : Prop := (Lit.int k n).wf = true
theorem okI64 {n : Int} (h : okI .i64 n) : -9223372036854775808 ≤ n ∧ n ≤ 9223372036854775807 := by simpa [okI, Lit.wf, IntKind.min, IntKind.max, IntKind.signed, IntKind.bits] using h
theorem okI8 {n : Int} (h : okI .i8 n) : -128 ≤ n ∧ n ≤ 127 := by simpa [okI, Lit.wf, IntKind.min, IntKind.max, IntKind.signed, IntKind.bits] using h
theorem okU8 {n : Int} (h : okI .u8 n) : 0 ≤ n ∧ n ≤ 255 := by simpa [okI, Lit.wf, IntKind.min, IntKind.max, IntKind.signed, IntKind.bits] using h
theorem RdT.int {P : Program} {t : TypeId} {k : IntKind} [h : TyKind P t k] : RdT P t (eInt k) (okI k) := ⟨fun hx _ => by
  obtain ⟨n, rfl, rfl, hw⟩ := DataW.trod_int h.h hx
  exact ⟨n, rfl, hw⟩⟩
theorem RdT.bool {P : Program} {t : TypeId} [h : TyBool P t] : RdT P t eBool BoolP := ⟨fun hx _ => by
  obtain ⟨n, rfl, rfl⟩ := DataW.trod_bool h.h hx
  exact ⟨n, rfl, trivial⟩⟩
theorem RdT.str {P : Program} {t : TypeId} [h : TyString P t] : RdT P t eStr StrP := ⟨fun hx hw => by
  obtain ⟨s, rfl, rfl, _⟩ := DataW.trod_string h.h hx
  refine ⟨s, rfl, ?_⟩
  show s.size ≤ reachBytes
  have := hw s.data.toList.length (by simp [DataW.weights])
  simpa using this⟩
theorem weightsAll_mem {H : Type} {P : Program} {e : TypeId} {m : Nat} {d : DataW H} : ∀ {l : List (DataW H)}, d ∈ l → m ∈ d.weights P e → m ∈ DataW.weightsAll P e l
  | x :: r, hd, hm => by
    simp only [DataW.weightsAll, List.mem_append]
    rcases List.mem_cons.1 hd with rfl | hd
    · exact .inl hm
    · exact .inr (weightsAll_mem hd hm)
theorem RdT.slice {P : Program} {t et : TypeId} [ht : TySl P t et] {size bytes : Nat} {zz : Value} [hz : TySz P et size bytes zz] {α : Type} [Inhabited α] {e : Enc α} {φ : α → Prop} (h : RdT P et e φ) (hs : e.n = size) (hp : Nat.blt 0 size = true) (hb : Nat.blt 0 bytes = true) :
    RdT P t (eL e) (ListP φ) := ⟨fun {H enc W n cs x} hx hw => by
  obtain ⟨ti, hi, h1, h2, _⟩ := hz.h
  have hp' : 0 < size := by simpa [Nat.blt_eq] using hp
  have hb' : 0 < bytes := by simpa [Nat.blt_eq] using hb
  have hc : P.cellsOf et = size := by simp [Program.cellsOf, hi, h1]
  have hby : P.bytesOf et = bytes := by simp [Program.bytesOf, hi, h2]
  rcases DataW.trod_slice ht.h hx with ⟨rfl, rfl⟩ | ⟨a, len, cap, elems, rest, m, rfl, rfl, rfl, _, hlc, hcm, hl, hel, _, _⟩
  · exact ⟨[], rd_nil, Nat.zero_le _, fun i hi => by simp at hi⟩
  · simp only [DataW.weights, ht.h, List.mem_cons, List.mem_append] at hw
    have hlen : len ≤ reachBytes := by
      have := hw _ (.inl rfl)
      rw [hby] at this
      simp only [List.length_map] at this
      have h3 : elems.length + rest.length ≤ (elems.length + rest.length) * bytes := Nat.le_mul_of_pos_right _ hb'
      omega
    -- one by one
    have one : ∀ i, i < len → ∃ ds y, W.cells? 0 (a.add (i * size)) size = some ds ∧ e.rd (memJ W) ds y ∧ φ y := fun i hi => by
      have h4 := hel i hi
      rw [hc, List.getElem?_eq_getElem (by omega)] at h4
      cases hcs : W.cells? 0 (a.add (i * size)) size with
      | none => rw [hcs] at h4; simp at h4
      | some ds =>
        rw [hcs] at h4
        simp only [Option.bind_some] at h4
        obtain ⟨y, hy1, hy2⟩ := h.imp h4 (fun q hq => hw q (.inr (.inl (weightsAll_mem (List.mem_map.2 ⟨_, List.getElem_mem _, rfl⟩) hq))))
        exact ⟨ds, y, rfl, hy1, hy2⟩
    let f : Nat → α := fun i => if hi : i < len then (one i hi).choose_spec.choose else default
    have hf : ∀ i (hi : i < len), ∃ ds, W.cells? 0 (a.add (i * size)) size = some ds ∧ e.rd (memJ W) ds (f i) ∧ φ (f i) := fun i hi => by
      refine ⟨(one i hi).choose, ?_⟩
      simp only [f, dif_pos hi]
      exact (one i hi).choose_spec.choose_spec
    have hxl : ((List.range len).map f).length = len := by simp
    refine ⟨(List.range len).map f, ⟨some a, cap, by rw [hxl], by rw [hxl]; simp only [lenMax]; simp only [reachBytes] at hlen; omega, ?_⟩, by rw [hxl]; exact hlen, fun i hi => ?_⟩
    · by_cases h0 : len = 0
      · subst h0; exact .inl rfl
      · have hspot : a = ⟨a.block, a.off, none⟩ := by
          obtain ⟨ds, h5, _⟩ := hf 0 (by omega)
          obtain ⟨_, h6, h7⟩ := World.cells?_some h5
          have h8 := h7 0 hp'
          have h9 : ds[0]? = some (ds[0]'(by omega)) := List.getElem?_eq_getElem (by omega)
          rw [h9, Nat.zero_mul] at h8
          have ha : (a.add 0).add 0 = a := by simp [Addr.add]
          rw [ha] at h8
          unfold World.cell? at h8
          cases hsp : a.spot with
          | none => cases a; simp_all
          | some q => rw [hsp] at h8; simp at h8; split at h8 <;> simp at h8
        refine .inr ⟨a.block, a.off, by rw [← hspot], fun i y hy => ?_⟩
        have hi : i < len := by have := (List.getElem?_eq_some_iff.1 hy).1; omega
        rw [List.getElem?_map, List.getElem?_range hi] at hy
        simp only [Option.map_some, Option.some.injEq] at hy
        subst hy
        obtain ⟨ds, h5, h6, _⟩ := hf i hi
        refine ⟨ds, h6, fun j v hj => ?_⟩
        obtain ⟨_, h7, h8⟩ := World.cells?_some h5
        have hjl : j < size := by have := (List.getElem?_eq_some_iff.1 hj).1; omega
        have h9 := h8 j hjl
        rw [hj, hspot, Addr.add_lit, Addr.add_lit] at h9
        rw [hs]
        exact h9
    · rw [hxl] at hi
      obtain ⟨_, _, _, h6⟩ := hf i hi
      have h7 := nth_get (xs := (List.range len).map f) (i := i) (by rw [hxl]; exact hi)
      rw [List.getElem?_map, List.getElem?_range hi] at h7
      rw [← Option.some.inj h7]
      exact h6⟩
structure FldT (P : Program) (fs : List Field) (o : Nat) {α : Type} (e : Enc α) (φ : α → Prop) : Prop where
  imp : ∀ {H : Type} {enc : TypeId × Value → H} {W : World} {n : Nat} {cs : List Value} {xs : List (DataW H × List MemPlace)},
  (∀ (i : Nat) (f : Field), fs[i]? = some f → DataW.trod enc P W 0 (fun _ => true) true n f.type ((cs.drop (f.offset - o)).take (P.cellsOf f.type)) = xs[i]?) → xs.length = fs.length → cs.length = (fs.map fun f : Field => P.cellsOf f.type).sum →
    (∀ m ∈ DataW.weightsEach P (fs.map fun f : Field => f.type) (xs.map (·.1)), m ≤ reachBytes) → ∃ a, e.rd (memJ W) cs a ∧ φ a
theorem FldT.nil {P : Program} {o : Nat} : FldT P [] o eU UnitP := ⟨fun {H enc W n cs xs} _ _ hc _ => by
  simp at hc
  subst hc
  exact ⟨(), rfl, trivial⟩⟩
theorem FldT.cons {P : Program} {f : Field} {fs : List Field} {o size bytes : Nat} {zz : Value} {ft : TypeId} [hz : TySz P ft size bytes zz] {α β : Type} {e : Enc α} {e' : Enc β} {φ : α → Prop} {ψ : β → Prop} (h : RdT P ft e φ) (hft : f.type = ft) (ho : f.offset = o) (hge : (fs.all fun g => Nat.ble (o + size) g.offset) = true)
    (r : FldT P fs (o + size) e' ψ) : FldT P (f :: fs) o (eP e e') (AndP φ ψ) := ⟨fun {H enc W n cs xs} hx hl hc hw => by
  subst hft
  obtain ⟨ti, hi, h1, h2, _⟩ := hz.h
  have hcs : P.cellsOf f.type = size := by simp [Program.cellsOf, hi, h1]
  cases xs with
  | nil => simp at hl
  | cons x xs =>
    have h0 := hx 0 f rfl
    rw [ho, Nat.sub_self, List.drop_zero, hcs] at h0
    simp only [List.getElem?_cons_zero] at h0
    simp only [List.map_cons, DataW.weightsEach, List.mem_append] at hw
    simp only [List.map_cons, List.sum_cons, hcs] at hc
    obtain ⟨a, k1, k2⟩ := h.imp h0 (fun m hm => hw m (.inl hm))
    obtain ⟨b, k3, k4⟩ := r.imp (H := H) (enc := enc) (W := W) (n := n) (cs := cs.drop size) (xs := xs) (fun i g hg => by
      have := hx (i + 1) g (by simpa using hg)
      simp only [List.getElem?_cons_succ] at this
      rw [← this, List.drop_drop]
      have hb := Nat.le_of_ble_eq_true (List.all_eq_true.1 hge g (List.mem_of_getElem? hg))
      rw [show size + (g.offset - (o + size)) = g.offset - o by omega]) (by simpa using hl) (by rw [List.length_drop]; omega) (fun m hm => hw m (.inr hm))
    exact ⟨(a, b), ⟨cs.take size, cs.drop size, (List.take_append_drop _ _).symm, k1, k3⟩, k2, k4⟩⟩
theorem RdT.struct {P : Program} {t : TypeId} {fs : Array Field} {l : List Field} (hu : P.underlying t = some (.struct fs)) (hl : fs.toList = l) {α : Type} {e : Enc α} {φ : α → Prop} (hsz : P.cellsOf t = (l.map fun f : Field => P.cellsOf f.type).sum) (F : FldT P l 0 e φ) : RdT P t e φ := ⟨fun {H enc W n cs x} hx hw => by
  subst hl
  obtain ⟨xs, m, rfl, rfl, hc, hn, hf⟩ := DataW.trod_struct hu hx
  simp only [DataW.weights, hu] at hw
  exact F.imp (fun i f hf' => by rw [Nat.sub_zero]; exact hf i f (by simpa using hf')) (by simpa using hn) (hc.trans hsz) hw⟩
theorem RdT.conv {P : Program} {t : TypeId} {α β : Type} {e : Enc α} {φ : α → Prop} (h : RdT P t e φ) {e' : Enc β} (f : α → β) (hf : ∀ J cs a, e.rd J cs a → e'.rd J cs (f a)) {ψ : β → Prop} (hψ : ∀ a, φ a → ψ (f a)) : RdT P t e' ψ := ⟨fun hx hw => by
  obtain ⟨a, h1, h2⟩ := h.imp hx hw
  exact ⟨f a, hf _ _ _ h1, hψ _ h2⟩⟩
structure ArrT (P : Program) (et : TypeId) (k : Nat) {α : Type} (e : Enc α) (φ : α → Prop) : Prop where
  imp : ∀ {H : Type} {enc : TypeId × Value → H} {W : World} {n : Nat} {cs : List Value} {xs : List (DataW H × List MemPlace)},
  (∀ i, i < k → DataW.trod enc P W 0 (fun _ => true) true n et ((cs.drop (i * P.cellsOf et)).take (P.cellsOf et)) = xs[i]?) → xs.length = k → cs.length = k * P.cellsOf et → (∀ m ∈ DataW.weightsAll P et (xs.map (·.1)), m ≤ reachBytes) → ∃ a, e.rd (memJ W) cs a ∧ φ a
theorem ArrT.nil {P : Program} {et : TypeId} : ArrT P et 0 eU UnitP := ⟨fun {H enc W n cs xs} _ _ hc _ => by
  simp at hc
  subst hc
  exact ⟨(), rfl, trivial⟩⟩
theorem ArrT.cons {P : Program} {et : TypeId} {k : Nat} {α β : Type} {e : Enc α} {e' : Enc β} {φ : α → Prop} {ψ : β → Prop} (h : RdT P et e φ) (r : ArrT P et k e' ψ) : ArrT P et (k + 1) (eP e e') (AndP φ ψ) := ⟨fun {H enc W n cs xs} hx hl hc hw => by
  cases xs with
  | nil => simp at hl
  | cons x xs =>
    have h0 := hx 0 (by omega)
    rw [Nat.zero_mul, List.drop_zero] at h0
    simp only [List.getElem?_cons_zero] at h0
    simp only [List.map_cons, DataW.weightsAll, List.mem_append] at hw
    obtain ⟨a, k1, k2⟩ := h.imp h0 (fun m hm => hw m (.inl hm))
    obtain ⟨b, k3, k4⟩ := r.imp (H := H) (enc := enc) (W := W) (n := n) (cs := cs.drop (P.cellsOf et)) (xs := xs) (fun i hi => by
      have := hx (i + 1) (by omega)
      simp only [List.getElem?_cons_succ] at this
      rw [← this, List.drop_drop, Nat.succ_mul, Nat.add_comm]) (by simpa using hl) (by rw [List.length_drop, hc, Nat.succ_mul]; omega) (fun m hm => hw m (.inr hm))
    exact ⟨(a, b), ⟨cs.take (P.cellsOf et), cs.drop (P.cellsOf et), (List.take_append_drop _ _).symm, k1, k3⟩, k2, k4⟩⟩
theorem RdT.arr {P : Program} {t et : TypeId} {k : Nat} [ht : TyArr P t k et] {α : Type} {e : Enc α} {φ : α → Prop} (hsz : P.cellsOf t = k * P.cellsOf et) (F : ArrT P et k e φ) : RdT P t e φ := ⟨fun {H enc W n cs x} hx hw => by
  obtain ⟨xs, m, rfl, rfl, hc, hn, hf⟩ := DataW.trod_array ht.h hx
  simp only [DataW.weights, ht.h] at hw
  exact F.imp hf hn (hc.trans hsz) hw⟩
theorem not_ok_agg {P : Program} {W : World} {r : Reach} {base : Nat} {t : TypeId} {cs : Array Value} (h : Cell.ok P W r base t (.agg cs)) : False := by
  unfold Cell.ok at h
  revert h
  split <;> simp_all
/-- One argument, opened. -/
theorem RdT.val {P : Program} {t : TypeId} {α : Type} {e : Enc α} {φ : α → Prop} (h : RdT P t e φ) (hag : (match P.underlying t with | some (.struct _) | some (.array _ _) => true | _ => false) = e.agg) {H : Type} {enc : TypeId × Value → H} {W : World} {base : Nat} {v : Value} {d : DataW H} {ps : List MemPlace}
    (hv : Value.okWide P W .any base t v) (ht : DataW.Trod enc P W 0 (fun _ => true) true t v d ps) (hw : ∀ m ∈ d.weights P t, m ≤ reachBytes) : ∃ a, kRd e a ⟨memJ W, noM⟩ v ∧ φ a := by
  obtain ⟨n, hn⟩ := ht
  obtain ⟨a, h1, h2⟩ := h.imp hn hw
  refine ⟨a, ⟨_, h1, ?_⟩, h2⟩
  cases hb : e.agg with
  | true =>
    rw [hb] at hag
    unfold Value.okWide at hv
    split at hv
    · obtain ⟨cs, rfl, _⟩ := hv; simp [Value.cells]
    · obtain ⟨cs, rfl, _⟩ := hv; simp [Value.cells]
    · rename_i h3 h4
      exfalso
      revert hag
      split
      · rename_i fs hq; exact fun _ => h3 _ hq
      · rename_i q r hq; exact fun _ => h4 _ _ hq
      · intro hf; cases hf
  | false =>
    obtain ⟨h3, h4⟩ := e.one hb
    have hl := e.len h1
    rw [h3] at hl
    simp only [Bool.false_eq_true, if_false]
    cases v with
    | agg cs =>
      exfalso
      rw [hb] at hag
      unfold Value.okWide at hv
      split at hv
      · rename_i fs hq; rw [hq] at hag; cases hag
      · rename_i q r hq; rw [hq] at hag; cases hag
      · have : Cell.ok P W .any base t (.agg cs) := by
          unfold Cell.okWide at hv
          split at hv <;> first | (rename_i hq; cases hq; done) | exact hv
        exact not_ok_agg this
    | _ => simp [Value.cells]
end Go.Fl

/- The last step of a law's row. -/
namespace Go.Fl
open Go Go.RowKit Go.ChangeShapes Go.WideShapes Go.ChangeAt
def szB (P : Program) : Bool := (List.range P.types.size).all fun t => match P.underlying t with | some (.slice e) => Nat.blt 0 (P.cellsOf e) | _ => true
theorem szB_spec {P : Program} (h : szB P = true) {t e : TypeId} (ht : t < P.types.size) (hu : P.underlying t = some (.slice e)) : 0 < P.cellsOf e := by
  have := List.all_eq_true.1 h t (List.mem_range.2 ht)
  rw [hu] at this
  simpa [Nat.blt_eq] using this
section
variable {H : Type} {enc : TypeId × Value → H} {P : Program}
theorem trodAll_stays (hl : laidOutB P = true) (hm : mapsRowed P = true) (hz : szB P = true) {W W' : World} {sp : Nat → Bool} : ∀ {ts : List TypeId} {vs : List Value} {ds : List (DataW H)} {ps : List MemPlace}, (∀ t ∈ ts, t < P.types.size) → DataW.TrodAll enc P W 0 (fun _ => true) true ts vs ds ps →
    (∀ p ∈ ps, W.sameAt W' p) → (∀ p ∈ ps, sp p.block = true) → DataW.TrodAll enc P W' 0 sp true ts vs ds ps
  | [], [], [], ps, _, h, _, _ => h
  | t :: ts, v :: vs, d :: ds, ps, ht, h, hs, hp => by
    obtain ⟨p, q, ⟨n, hn⟩, h2, rfl⟩ := h
    refine ⟨p, q, ⟨n, ?_⟩, trodAll_stays hl hm hz (fun u hu => ht u (List.mem_cons_of_mem _ hu)) h2 (fun x hx => hs x (List.mem_append.2 (.inr hx))) (fun x hx => hp x (List.mem_append.2 (.inr hx))), rfl⟩
    exact DataW.trod_stays (kids_rows hl hm) (fun ht hu => szB_spec hz ht hu) (fun h => by cases h) (ht t List.mem_cons_self) hn (fun x hx => hs x (List.mem_append.2 (.inl hx))) (fun x hx => hp x (List.mem_append.2 (.inl hx)))
  | [], _ :: _, _, _, _, h, _, _ => h.elim
  | [], [], _ :: _, _, _, h, _, _ => h.elim
  | _ :: _, [], _, _, _, h, _, _ => h.elim
  | _ :: _, _ :: _, [], _, _, h, _, _ => h.elim
theorem law_post {f : Func} {s : ChangeSpec} {W W' : World} {args : Array Value} {ds gs : List (DataW H)} {before : List MemPlace} {tb : TypeId} (hl : laidOutB P = true) (hm : mapsRowed P = true) (hz : szB P = true) (hW : DataW.Whole enc P f.params.toList s.vars false W args.toList ds gs before)
    (hts : (f.params.toList.all fun t => Nat.blt t P.types.size) = true) (hv : s.vars = []) (hfn : gs = [] → s.fn H (ds ++ gs) = { results := [.lit (.bool true)], args := ds }) (hr : f.resultTypes = #[tb]) (hb : P.underlying tb = some .bool) (hbel : Below W.heap.size W W') :
    s.post enc P f false true false false W args (.bool true) W' := by
  have hW' := hW
  obtain ⟨p, q, hA, hV, rfl, _, _⟩ := hW
  rw [hv] at hV
  obtain ⟨rfl, rfl⟩ := trodVars_none hV
  simp only [List.append_nil] at hW'
  have hfn' := hfn rfl
  have hlt : ∀ x ∈ p, x.block < W.heap.size := fun x hx => hW'.lt x hx
  refine ⟨ds, [], p, [], p, [], hW', ?_, ?_, ?_, hbel.frame _, fun h => by cases h⟩
  · rw [hfn', hr]
    exact trodAll_mk1 (shut_bool hb _)
  · rw [hfn']
    refine trodAll_stays hl hm hz (fun t ht => ?_) hA (fun x hx => ?_) (fun x hx => by simpa using hlt x hx)
    · have := List.all_eq_true.1 hts t ht
      simpa [Nat.blt_eq] using this
    · cases x with
      | cell b o => exact hbel.cell (p := ⟨b, o, none⟩) (hlt _ hx)
      | map b => exact hbel.block b (hlt _ hx)
  · rw [hfn', hv]; exact rfl
theorem weights_cons {t : TypeId} {ts : List TypeId} {d : DataW H} {ds : List (DataW H)} (h : (DataW.weightsEach P (t :: ts) (d :: ds)).all (· ≤ reachBytes) = true) : (∀ m ∈ d.weights P t, m ≤ reachBytes) ∧ (DataW.weightsEach P ts ds).all (· ≤ reachBytes) = true := by
  simp only [DataW.weightsEach, List.all_append, Bool.and_eq_true] at h
  exact ⟨fun m hm => by simpa using List.all_eq_true.1 h.1 m hm, h.2⟩
end
theorem Ct.law {P : Program} {f : FuncId} {args : List Know} (h : Ct P f args (kB true)) {W : World} {vs : Array Value} (hv : allK ⟨memJ W, noM⟩ args vs.toList) {Q : Ending → World → Prop} (hq : ∀ W', Below W.heap.size W W' → Q (.returned (.bool true)) W') : Calls P f vs W Q := by
  have := h W (memJ W) (memJ_im W) vs.toList hv
  refine this.mono fun e W' ⟨r, J', he, hb, _, _, _, hr⟩ => ?_
  subst he
  rw [show r = .bool true from hr]
  exact hq W' hb
theorem kI_rd {k : IntKind} {n : Int} {g : Gh} {v : Value} (h : kRd (eInt k) n g v) : kDet (.int k n) g v := by
  obtain ⟨_, rfl, rfl⟩ := h; rfl
theorem kS_rd {n : ByteArray} {g : Gh} {v : Value} (h : kRd eStr n g v) : kDet (.string n) g v := by
  obtain ⟨_, rfl, rfl⟩ := h; rfl
theorem kB_rd {n : Bool} {g : Gh} {v : Value} (h : kRd eBool n g v) : kDet (.bool n) g v := by
  obtain ⟨_, rfl, rfl⟩ := h; rfl
end Go.Fl

/- THE LAW HomologyHolonomies HOLDS FOR EVERY INPUT: whatever the arguments, the call returns true, and each argument reads behind it as before. Conditions: those of the given row (its listed variables as the program lays them). -/
namespace Go.Proofs.YtjknpblmpcecjaaDoor
open Go Go.Fl Go.RowKit Go.ChangeShapes Go.WideShapes Go.ChangeAt

theorem rdt22 : RdT Tryd.prog 22 (eL eI) (ListP (okI .i64)) := RdT.slice RdT.int rfl rfl rfl
theorem rdt24t : RdT Tryd.prog 24 (eP (eL eI) (eP (eL eI) eU)) (AndP (ListP (okI .i64)) (AndP (ListP (okI .i64)) UnitP)) := by
  refine RdT.struct (l := [_, _]) Tryd.underlying24 rfl (by kernel_rfl) ?_
  refine FldT.cons rdt22 (by rfl) (by rfl) (by rfl) ?_
  refine FldT.cons rdt22 (by rfl) (by rfl) (by rfl) ?_
  exact FldT.nil
theorem rdt24 : RdT Tryd.prog 24 eO (fun o : Ori => ListP (okI .i64) o.1 ∧ ListP (okI .i64) o.2) := RdT.conv rdt24t (fun x => ((x.1, x.2.1) : Ori)) (fun _ _ _ h => h) (fun _ h => ⟨h.1, h.2.1⟩)
theorem own : ownKnob Tryd.prog.godebug = none := by kernel_rfl
set_option maxRecDepth 100000 in
theorem lifted (os : Os) (started : os.Started) (H : Type) (enc : TypeId × Value → H) :
    ReturnsInHanded {} Tryd.checked os 3 .any (fun w args => (Rows.homologyHolonomiesSpec.pre enc Tryd.prog Tryd.f3 [] false w args ∧ laidMetH Tryd.prog Rows.homologyHolonomiesRow.laid w) ∧ sizedMet enc Tryd.prog Tryd.f3 (OpenSpec.ofChange Rows.homologyHolonomiesSpec) false w args)
      (Rows.homologyHolonomiesSpec.post enc Tryd.prog Tryd.f3 false true false false) := by
  refine returnsInHanded_of_change_and (C := Tryd.checked) (X := fun w _ => laidMetH Tryd.prog Rows.homologyHolonomiesRow.laid w) (fun _ _ _ hh h => h.of_heap hh) own started (by kernel_rfl) Tryd.func3
    (ChangeSpec.witness_shaped (enc := enc) (C := Tryd.checked) (os := os) (X := fun w _ => laidMetH Tryd.prog Rows.homologyHolonomiesRow.laid w) false (World.laidAll Tryd.prog os Rows.homologyHolonomiesRow.laid) #[.agg #[.slice none 0 0, .slice none 0 0], .string ⟨#[]⟩, .slice none 0 0] 8 (World.laidAll_os _ _ _)
      (World.shaped_of_ZipB (by kernel_rfl) (by kernel_rfl)) (by kernel_rfl) (by kernel_rfl) (by kernel_rfl)
      (by rw [MakeChecks.laidMetH_plain _ _ _ (by kernel_rfl)]; exact laidMet_laidAll _ (by kernel_rfl) (by kernel_rfl))) ?_
  intro W base args ds gs before hval0 hW _ hwt hL _
  have hval : ∀ (j : Nat) t v, Tryd.f3.params[j]? = some t → args[j]? = some v → Value.okWide Tryd.prog W .any base t v := hval0
  have hpost : ∀ W', Below W.heap.size W W' → Rows.homologyHolonomiesSpec.post enc Tryd.prog Tryd.f3 false true false false W args (.bool true) W' := fun W' hb => law_post (by kernel_rfl) (by kernel_rfl) (by kernel_rfl) hW (by kernel_rfl) rfl (fun hg => by
    subst hg
    obtain ⟨p, q, hA0, _⟩ := hW
    have hA : DataW.TrodAll enc Tryd.prog W 0 (fun _ => true) true Tryd.f3.params.toList args.toList ds p := hA0
    rw [Tryd.params3] at hA
    obtain ⟨v0, v1, v2, d0, d1, d2, _, _, _, rfl, rfl, _, _, _, _⟩ := trodAll_three hA
    rfl) rfl Tryd.underlying4 hb
  have hW0 := hW
  obtain ⟨p, q, hA0, hV, rfl, _, _⟩ := hW0
  have hA : DataW.TrodAll enc Tryd.prog W 0 (fun _ => true) true Tryd.f3.params.toList args.toList ds p := hA0
  rw [Tryd.params3] at hA hval hwt
  obtain ⟨rfl, rfl⟩ := trodVars_none hV
  obtain ⟨v0, v1, v2, d0, d1, d2, _, _, _, rfl, rfl, _, h0, h1, h2⟩ := trodAll_three hA
  have hwt' : (DataW.weightsEach Tryd.prog [24, 9, 22] [d0, d1, d2]).all (· ≤ reachBytes) = true := hwt
  have w0 := weights_cons hwt'
  have w1 := weights_cons w0.2
  have w2 := weights_cons w1.2
  obtain ⟨x0, k0, r0⟩ := RdT.val (by exact rdt24 : RdT Tryd.prog 24 eO (fun o : Ori => ListP (okI .i64) o.1 ∧ ListP (okI .i64) o.2)) rfl (hval 0 24 v0 rfl rfl) h0 w0.1
  obtain ⟨x1, k1, r1⟩ := RdT.val (by exact RdT.str : RdT Tryd.prog 9 eStr StrP) rfl (hval 1 9 v1 rfl rfl) h1 w1.1
  obtain ⟨x2, k2, r2⟩ := RdT.val (by exact rdt22 : RdT Tryd.prog 22 (eL eI) (ListP (okI .i64))) rfl (hval 2 22 v2 rfl rfl) h2 w2.1
  refine Ct.law (vs := #[v0, v1, v2]) (ct_HomologyHolonomies x0 x1 x2 r1) ?_ fun W' hb => ⟨_, rfl, hpost W' hb⟩
  exact ⟨k0, (kS_rd k1), k2, trivial⟩
theorem holds : Rows.homologyHolonomiesRow.holds Tryd.pinned (OpenSpec.ofChange Rows.homologyHolonomiesSpec) :=
  OpenClaim.holds_of_wide 3 Tryd.f3 rfl rfl rfl rfl rfl rfl rfl ⟨rfl, rfl, rfl, rfl, rfl⟩ rfl rfl rfl rfl rfl (by kernel_rfl) Tryd.func3 (by kernel_rfl)
    (of_decide_eq_true (by kernel_rfl)) (by unfold Func.isWrapper; first | (rw [if_pos (by decide +kernel)]; kernel_rfl) | (rw [if_neg (by decide +kernel)]; exact ⟨rfl, rfl⟩))
    (fun os started H enc _ => lifted os started H enc)
theorem homologyHolonomies_holds : Rows.HomologyHolonomiesCardSaid :=
  Claim7.holds_tied_plain_at .later [] [.data, .pinned] true (true, "252dad1770f534ae80f9b31edcf54ab8807fc43037e7828423b9627a9e6c4751") false holds (fun _ h => by cases h) (by kernel_rfl) (fun _ h => by cases h) homologyHolonomies_row_tie rfl ⟨rfl, rfl⟩ (by kernel_rfl) rfl
    (fun f fn hf hfn => by
      obtain rfl : f = 3 := Option.some.inj ((show Tryd.prog.funcNamed Rows.homologyHolonomiesRow.func = some 3 by kernel_rfl).symm.trans hf) |>.symm
      obtain rfl : fn = Tryd.f3 := (Option.some.inj (Tryd.func3.symm.trans hfn)).symm
      exact ⟨by kernel_rfl, fun j t ht => by
        rw [Tryd.params3] at ht
        have hm : t ∈ [24, 9, 22] := by simpa using Array.mem_of_getElem? ht
        have hall : ([24, 9, 22].all fun u => !Tryd.prog.wantsStandIn u) = true := by kernel_rfl
        exact (show Tryd.prog.wantsStandIn t = false by simpa using List.all_eq_true.1 hall t hm)⟩)
    (by kernel_rfl)
end Go.Proofs.YtjknpblmpcecjaaDoor
