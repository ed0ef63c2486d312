/- THE LAW HomologyActs HOLDS FOR EVERY INPUT: whatever the arguments, the call returns true, and each argument reads behind it as before. Conditions: those of the given row (its listed variables as the program lays them). -/
import Derived.Test.YtjknpblmpcecjaaDoorM5
import Derived.Laws.BytesArg
import Derived.Test.YtjknpblmpcecjaaDoorTie
import Derived.Test.YtjknpblmpcecjaaDoorCards
import Derived.Test.YtjknpblmpcecjaaDoorRows

/- Contracts of the reference of chapter 8: words. -/
namespace Go.Fl
open Go Go.Proofs


theorem orE_assoc {a b c : Int} : orE a (orE b c) = orE (orE a b) c := by
  by_cases h : a = 0
  · rw [orE_r h, orE_r h]
  · rw [orE_l h, orE_l h, orE_l h]

set_option maxRecDepth 100000 in
theorem ct_rCheckWord (s : ByteArray) : Ct Tryd.prog 18 [kS s] (kI (chkW (bs s))) := by
  have hbl := bs_len (s := s)
  refine Ct.mk Tryd.func18 rfl Tryd.ntmps18 rfl (fun w J => ?_)
  refine Tr.seq ?_
  refine Tr.rg ?_
  refine TrL.op (ok_assign rfl (fun _ => rfl)) rfl rfl ?_
  refine TrL.fin ?_
  refine End.nxt ?_
  refine Tr.seq ?_
  refine Tr.seq ?_
  refine Tr.rg ?_
  refine TrL.op (ok_move rfl (fun _ => rfl)) rfl rfl ?_
  refine TrL.op (ok_lenS rfl (fun _ => rfl)) rfl rfl ?_
  refine TrL.op (ok_gtr rfl (fun _ => rfl) rfl (fun _ => rfl)) rfl rfl ?_
  refine TrL.fin ?_
  refine End.nxt ?_
  refine Tr.cnd rfl ?_ ?_
  · intro h1
    replace h1 := of_decide_eq_true h1
    refine Tr.seq ?_
    refine Tr.rg ?_
    refine TrL.op (ok_assign rfl (fun _ => rfl)) rfl rfl ?_
    refine TrL.fin ?_
    refine End.nxt ?_
    refine Tr.ret ?_
    refine Rts.thn ?_
    exact Rts.res1 (fn := Tryd.f18) rfl (.i rfl (by unfold chkW; rw [if_pos (by omega)]) <| .nil)
  · intro h1
    replace h1 := Int.not_lt.1 (of_decide_eq_false h1)
    refine Tr.skip ?_
    refine End.nxt ?_
    refine Tr.seq ?_
    refine Tr.seq ?_
    refine Tr.rg ?_
    refine TrL.op (ok_assign rfl (fun _ => rfl)) rfl rfl ?_
    refine TrL.fin ?_
    refine End.nxt ?_
    refine Tr.for1 (σ := Nat) [⟨0, true, _, _⟩] [] (fun k => [⟨3, true, [], kI (k : Int)⟩]) (fun k => []) (fun k => k ≤ s.size ∧ ∀ i, i < k → isLet (nth (bs s) i) = true) (fun k => ∀ i, i < s.size → isLet (nth (bs s) i) = true) (fun k => s.size - k) (0) ⟨Nat.zero_le _, fun i h => absurd h (by omega)⟩ (Ent.mk (.i rfl (by first | rfl | omega | (simp; done) | (simp; omega) | assumption) <| .k rfl rfl <| .nil) (.nil) rfl) ?_ ?_
    · rintro k ⟨hk0, hR0⟩
      refine Tr.norm (S' := [⟨3, true, _, _⟩, ⟨0, true, _, _⟩]) (M' := []) rfl rfl ?_
      refine Tr.seq ?_
      refine Tr.seq ?_
      refine Tr.rg ?_
      refine TrL.op (ok_move rfl (fun _ => rfl)) rfl rfl ?_
      refine TrL.op (ok_move rfl (fun _ => rfl)) rfl rfl ?_
      refine TrL.op (ok_lenS rfl (fun _ => rfl)) rfl rfl ?_
      refine TrL.op (ok_lss rfl (fun _ => rfl) rfl (fun _ => rfl)) rfl rfl ?_
      refine TrL.fin ?_
      refine End.nxt ?_
      refine Tr.cnd rfl ?_ ?_
      · intro h4
        replace h4 := of_decide_eq_true h4
        refine Tr.skip ?_
        refine End.nxt ?_
        refine Tr.seq ?_
        refine Tr.blk ?_
        refine Tr.seq ?_
        refine Tr.rg ?_
        refine TrL.op (ok_move rfl (fun _ => rfl)) rfl rfl ?_
        refine TrL.op (ok_move rfl (fun _ => rfl)) rfl rfl ?_
        refine TrL.op (ok_idxS rfl (fun _ => rfl) rfl (fun _ => rfl) (fun _ => by omega)) rfl rfl ?_
        refine TrL.op (ok_neq rfl (fun _ => rfl) rfl (fun _ => rfl)) rfl rfl ?_
        refine TrL.op (ok_move rfl (fun _ => rfl)) rfl rfl ?_
        refine TrL.gd rfl rfl rfl (ok_move rfl (fun _ => rfl)) rfl rfl ?_
        refine TrL.gd rfl rfl rfl (ok_move rfl (fun _ => rfl)) rfl rfl ?_
        refine TrL.gd rfl rfl rfl (ok_idxS rfl id rfl id (fun hp => by simp at hp; omega)) rfl rfl ?_
        refine TrL.gd rfl rfl rfl (ok_neq rfl id rfl (fun _ => rfl)) rfl rfl ?_
        refine TrL.op (ok_and rfl (fun _ => rfl) rfl (fun hp h => gdT2 ((fun _ => rfl) hp) h)) rfl rfl ?_
        refine TrL.op (ok_move rfl (fun _ => rfl)) rfl rfl ?_
        refine TrL.gd rfl rfl rfl (ok_move rfl (fun _ => rfl)) rfl rfl ?_
        refine TrL.gd rfl rfl rfl (ok_move rfl (fun _ => rfl)) rfl rfl ?_
        refine TrL.gd rfl rfl rfl (ok_idxS rfl id rfl id (fun hp => by simp at hp; omega)) rfl rfl ?_
        refine TrL.gd rfl rfl rfl (ok_neq rfl id rfl (fun _ => rfl)) rfl rfl ?_
        refine TrL.op (ok_and rfl (fun _ => rfl) rfl (fun hp h => gdT2 ((fun _ => rfl) hp) h)) rfl rfl ?_
        refine TrL.op (ok_move rfl (fun _ => rfl)) rfl rfl ?_
        refine TrL.gd rfl rfl rfl (ok_move rfl (fun _ => rfl)) rfl rfl ?_
        refine TrL.gd rfl rfl rfl (ok_move rfl (fun _ => rfl)) rfl rfl ?_
        refine TrL.gd rfl rfl rfl (ok_idxS rfl id rfl id (fun hp => by simp at hp; omega)) rfl rfl ?_
        refine TrL.gd rfl rfl rfl (ok_neq rfl id rfl (fun _ => rfl)) rfl rfl ?_
        refine TrL.op (ok_and rfl (fun _ => rfl) rfl (fun hp h => gdT2 ((fun _ => rfl) hp) h)) rfl rfl ?_
        refine TrL.fin ?_
        refine End.nxt ?_
        refine Tr.cnd rfl ?_ ?_
        · intro h6
          try simp only [decide_eq_true_eq, Bool.and_eq_true, ne_eq] at h6
          refine Tr.seq ?_
          refine Tr.rg ?_
          refine TrL.op (ok_assign rfl (fun _ => rfl)) rfl rfl ?_
          refine TrL.fin ?_
          refine End.nxt ?_
          refine Tr.ret ?_
          refine Rts.out ?_
          refine Rts.thn ?_
          refine Rts.thn ?_
          refine Rts.out ?_
          refine Rts.thn ?_
          refine Rts.thn ?_
          exact Rts.res1 (fn := Tryd.f18) rfl (.i rfl (by unfold chkW; rw [if_neg (by omega), if_neg (fun hh => by (have := all_drop hh (j := k) (by omega); have := of_decide_eq_true this; omega))]) <| .nil)
        · intro h6
          try simp only [decide_eq_true_eq, decide_eq_false_iff_not, Bool.and_eq_true, Bool.and_eq_false_imp, ne_eq, Classical.not_not] at h6
          refine Tr.skip ?_
          refine End.blk ?_
          refine End.nxt ?_
          refine Tr.rg ?_
          refine TrL.op (ok_move rfl (fun _ => rfl)) rfl rfl ?_
          refine TrL.op (ok_add rfl (fun _ => rfl) rfl (fun _ => rfl) (fun _ => by omega)) rfl rfl ?_
          refine TrL.op (ok_assign rfl (fun _ => rfl)) rfl rfl ?_
          refine TrL.fin ?_
          exact End.lp (k + 1) ⟨by omega, all_succ hR0 (decide_eq_true (by omega))⟩ (by omega) (Ent.mk (.i rfl (by first | rfl | omega | (simp; done) | (simp; omega) | assumption) <| .k rfl rfl <| .nil) (.nil) rfl)
      · intro h4
        replace h4 := Int.not_lt.1 (of_decide_eq_false h4)
        refine Tr.exit ?_
        refine Exs.thn ?_
        refine Exs.thn ?_
        refine Exs.here ?_
        exact End.cut (k) (fun i hi => hR0 i (by omega)) (Ent.mk (.i rfl (by first | rfl | omega | (simp; done) | (simp; omega) | assumption) <| .k rfl rfl <| .nil) (.nil) rfl)
    · intro k hE0
      refine End.norm (S' := [⟨3, true, _, _⟩, ⟨0, true, _, _⟩]) (M' := []) rfl rfl ?_
      refine End.nxt ?_
      refine Tr.seq ?_
      refine Tr.rg ?_
      refine TrL.op (ok_assign rfl (fun _ => rfl)) rfl rfl ?_
      refine TrL.fin ?_
      refine End.nxt ?_
      refine Tr.ret ?_
      exact Rts.res1 (fn := Tryd.f18) rfl (.i rfl (by unfold chkW; rw [if_neg (by omega), if_pos (List.all_eq_true.2 (fun x hx => by (obtain ⟨i, hi, rfl⟩ := mem_nth hx; exact hE0 i (by omega))))]) <| .nil)

set_option maxRecDepth 100000 in
set_option maxHeartbeats 1000000 in
theorem ct_rletter (o : Ori) (x : Int) (c : List Int) (v : Valid o) (hx : isLet x = true) (hc : c.length = 2 * o.1.length) : Ct Tryd.prog 49 [kRd eO o, kInt .u8 x, kRd (eL eI) c] (kTup [kRd eO (letO x o), kRd (eL eI) (letC x o c)]) := by
  have hv0 := v.pos
  have hv1 := v.len
  have hv2 := v.le
  have hl1 := invL_len o.1
  have hl2 := invL_len o.2
  refine Ct.mk Tryd.func49 rfl Tryd.ntmps49 rfl (fun w J => ?_)
  refine Tr.seq ?_
  refine Tr.rg ?_
  refine TrL.new (ok_box 3 rfl (fun _ => rfl) rfl) rfl rfl rfl rfl ?_
  refine TrL.new (ok_alloc 6) rfl rfl rfl rfl ?_
  refine TrL.op (ok_assign rfl (fun _ => rfl)) rfl rfl ?_
  refine TrL.fin ?_
  refine End.nxt ?_
  refine Tr.seq ?_
  refine Tr.rg ?_
  refine TrL.op (ok_ldBS rfl (fun _ => rfl)) rfl rfl ?_
  refine TrL.op (ok_call (fun hp => ct_rOpen _ v) (.s rfl (fun _ => rfl) rfl <| .nil)) rfl rfl ?_
  refine TrL.new (ok_alloc 8) rfl rfl rfl rfl ?_
  refine TrL.stB rfl rfl rfl rfl ?_
  refine TrL.fin ?_
  refine End.nxt ?_
  refine Tr.seq ?_
  refine Tr.rg ?_
  refine TrL.op (ok_fldO rfl (fun _ => rfl)) rfl rfl ?_
  refine TrL.op (ok_ldB rfl (fun _ => rfl) rfl) rfl rfl ?_
  refine TrL.op (ok_assign rfl (fun _ => rfl)) rfl rfl ?_
  refine TrL.fin ?_
  refine End.nxt ?_
  refine Tr.seq ?_
  refine Tr.rg ?_
  refine TrL.op (ok_move rfl (fun _ => rfl)) rfl rfl ?_
  refine TrL.op (ok_mul rfl (fun _ => rfl) rfl (fun _ => rfl) (fun _ => by omega)) rfl rfl ?_
  refine TrL.new (ok_make eI 27 rfl (fun _ => rfl) rfl (fun _ => rfl) rfl rfl (fun _ => by omega)) rfl rfl rfl rfl ?_
  refine TrL.op (ok_assign rfl (fun _ => rfl)) rfl rfl ?_
  refine TrL.fin ?_
  refine End.nxt ?_
  refine Tr.seq ?_
  refine Tr.rg ?_
  refine TrL.new (ok_alloc 11) rfl rfl rfl rfl ?_
  refine TrL.fin ?_
  refine End.nxt ?_
  refine Tr.meet2 (σ := Unit) [⟨1, true, _, _⟩, ⟨2, true, _, _⟩, ⟨6, true, _, _⟩, ⟨8, true, _, _⟩, ⟨9, true, _, _⟩, ⟨10, true, _, _⟩, ⟨11, true, _, _⟩] [⟨6, _, _⟩, ⟨8, _, _⟩, ⟨27, _, _⟩] (.k rfl rfl <| .k rfl rfl <| .k rfl rfl <| .k rfl rfl <| .k rfl rfl <| .k rfl rfl <| .k rfl rfl <| .nil) (.k rfl <| .k rfl <| .k rfl <| .nil) (fun _ => []) (fun _ => [⟨11, [], cBlk [kRd (eL eI) (letO x o).1, kRd (eL eI) (letO x o).2]⟩]) (fun _ => True) ?_ ?_
  · skip
    refine Tr.seq ?_
    refine Tr.rg ?_
    refine TrL.op (ok_move rfl (fun _ => rfl)) rfl rfl ?_
    refine TrL.fin ?_
    refine End.nxt ?_
    refine Tr.blk ?_
    refine Tr.seq ?_
    refine Tr.rg ?_
    refine TrL.op (ok_eql rfl (fun _ => rfl) rfl (fun _ => rfl)) rfl rfl ?_
    refine TrL.op (ok_assign rfl (fun _ => rfl)) rfl rfl ?_
    refine TrL.fin ?_
    refine End.nxt ?_
    refine Tr.cnd rfl ?_ ?_
    · intro h7
      try simp only [decide_eq_true_eq] at h7
      refine Tr.draw 7 mixed (by kernel_rfl) ?_
      refine RunD.op (ok_fldO rfl (fun _ => rfl)) rfl rfl ?_
      refine RunD.op (ok_ldB rfl (fun _ => rfl) rfl) rfl rfl ?_
      refine RunD.op (ok_fldO rfl (fun _ => rfl)) rfl rfl ?_
      refine RunD.op (ok_ldB rfl (fun _ => rfl) rfl) rfl rfl ?_
      refine RunD.op (ok_fldO rfl (fun _ => rfl)) rfl rfl ?_
      refine RunD.op (ok_ldB rfl (fun _ => rfl) rfl) rfl rfl ?_
      refine RunD.op (ok_call (fun hp => ct_rAfter _ _ (by omega) (by rw [hl1]; exact v.rU)) (.a rfl (fun _ => rfl) <| .a rfl (fun _ => rfl) <| .nil)) rfl rfl ?_
      refine RunD.z ?_
      refine TrL.op (ok_build (fun hp => .cons rfl rfl rfl <| .cons rfl rfl rfl <| .nil)) rfl rfl ?_
      refine TrL.stB rfl rfl rfl rfl ?_
      refine TrL.fin ?_
      refine End.blk ?_
      exact End.cut (()) (by first | rfl | omega | (simp; done) | (simp; omega) | assumption) (Ent.mk (.k rfl rfl <| .k rfl rfl <| .k rfl rfl <| .k rfl rfl <| .k rfl rfl <| .k rfl rfl <| .k rfl rfl <| .nil) (.e (by subst h7; rfl) rfl <| .k rfl <| .k rfl <| .k rfl <| .nil) rfl)
    · intro h7
      try simp only [decide_eq_false_iff_not] at h7
      refine Tr.seq ?_
      refine Tr.rg ?_
      refine TrL.op (ok_eql rfl (fun _ => rfl) rfl (fun _ => rfl)) rfl rfl ?_
      refine TrL.op (ok_assign rfl (fun _ => rfl)) rfl rfl ?_
      refine TrL.fin ?_
      refine End.nxt ?_
      refine Tr.cnd rfl ?_ ?_
      · intro h9
        try simp only [decide_eq_true_eq] at h9
        refine Tr.draw 7 mixed (by kernel_rfl) ?_
        refine RunD.op (ok_fldO rfl (fun _ => rfl)) rfl rfl ?_
        refine RunD.op (ok_ldB rfl (fun _ => rfl) rfl) rfl rfl ?_
        refine RunD.op (ok_fldO rfl (fun _ => rfl)) rfl rfl ?_
        refine RunD.op (ok_ldB rfl (fun _ => rfl) rfl) rfl rfl ?_
        refine RunD.op (ok_fldO rfl (fun _ => rfl)) rfl rfl ?_
        refine RunD.op (ok_ldB rfl (fun _ => rfl) rfl) rfl rfl ?_
        refine RunD.op (ok_call (fun hp => ct_rAfter _ _ (by omega) v.rU) (.a rfl (fun _ => rfl) <| .a rfl (fun _ => rfl) <| .nil)) rfl rfl ?_
        refine RunD.z ?_
        refine TrL.op (ok_build (fun hp => .cons rfl rfl rfl <| .cons rfl rfl rfl <| .nil)) rfl rfl ?_
        refine TrL.stB rfl rfl rfl rfl ?_
        refine TrL.fin ?_
        refine End.blk ?_
        exact End.cut (()) (by first | rfl | omega | (simp; done) | (simp; omega) | assumption) (Ent.mk (.k rfl rfl <| .k rfl rfl <| .k rfl rfl <| .k rfl rfl <| .k rfl rfl <| .k rfl rfl <| .k rfl rfl <| .nil) (.e (by subst h9; rfl) rfl <| .k rfl <| .k rfl <| .k rfl <| .nil) rfl)
      · intro h9
        try simp only [decide_eq_false_iff_not] at h9
        refine Tr.seq ?_
        refine Tr.rg ?_
        refine TrL.op (ok_eql rfl (fun _ => rfl) rfl (fun _ => rfl)) rfl rfl ?_
        refine TrL.op (ok_assign rfl (fun _ => rfl)) rfl rfl ?_
        refine TrL.fin ?_
        refine End.nxt ?_
        refine Tr.cnd rfl ?_ ?_
        · intro h11
          try simp only [decide_eq_true_eq] at h11
          refine Tr.rg ?_
          refine TrL.op (ok_fldO rfl (fun _ => rfl)) rfl rfl ?_
          refine TrL.op (ok_ldB rfl (fun _ => rfl) rfl) rfl rfl ?_
          refine TrL.op (ok_fldO rfl (fun _ => rfl)) rfl rfl ?_
          refine TrL.op (ok_ldB rfl (fun _ => rfl) rfl) rfl rfl ?_
          refine TrL.op (ok_build (fun hp => .cons rfl rfl rfl <| .cons rfl rfl rfl <| .nil)) rfl rfl ?_
          refine TrL.stB rfl rfl rfl rfl ?_
          refine TrL.fin ?_
          refine End.blk ?_
          exact End.cut (()) (by first | rfl | omega | (simp; done) | (simp; omega) | assumption) (Ent.mk (.k rfl rfl <| .k rfl rfl <| .k rfl rfl <| .k rfl rfl <| .k rfl rfl <| .k rfl rfl <| .k rfl rfl <| .nil) (.e (by subst h11; rfl) rfl <| .k rfl <| .k rfl <| .k rfl <| .nil) rfl)
        · intro h11
          try simp only [decide_eq_false_iff_not] at h11
          refine Tr.rg ?_
          refine TrL.op (ok_fldO rfl (fun _ => rfl)) rfl rfl ?_
          refine TrL.op (ok_ldB rfl (fun _ => rfl) rfl) rfl rfl ?_
          refine TrL.op (ok_fldO rfl (fun _ => rfl)) rfl rfl ?_
          refine TrL.op (ok_ldB rfl (fun _ => rfl) rfl) rfl rfl ?_
          refine TrL.op (ok_build (fun hp => .cons rfl rfl rfl <| .cons rfl rfl rfl <| .nil)) rfl rfl ?_
          refine TrL.stB rfl rfl rfl rfl ?_
          refine TrL.fin ?_
          refine End.blk ?_
          exact End.cut (()) (by first | rfl | omega | (simp; done) | (simp; omega) | assumption) (Ent.mk (.k rfl rfl <| .k rfl rfl <| .k rfl rfl <| .k rfl rfl <| .k rfl rfl <| .k rfl rfl <| .k rfl rfl <| .nil) (.e (by (have hq := isLet_cases hx; obtain rfl : x = 115 := by omega); rfl) rfl <| .k rfl <| .k rfl <| .k rfl <| .nil) rfl)
  · intro _ hM
    refine Tr.norm (S' := [⟨1, true, _, _⟩, ⟨2, true, _, _⟩, ⟨6, true, _, _⟩, ⟨8, true, _, _⟩, ⟨9, true, _, _⟩, ⟨10, true, _, _⟩, ⟨11, true, _, _⟩]) (M' := [⟨11, _, _⟩, ⟨6, _, _⟩, ⟨8, _, _⟩, ⟨27, _, _⟩]) rfl rfl ?_
    refine Tr.seq ?_
    refine Tr.seq ?_
    refine Tr.rg ?_
    refine TrL.op (ok_assign rfl (fun _ => rfl)) rfl rfl ?_
    refine TrL.fin ?_
    refine End.nxt ?_
    refine Tr.for1 (σ := Nat) [⟨1, true, _, _⟩, ⟨2, true, _, _⟩, ⟨6, true, _, _⟩, ⟨8, true, _, _⟩, ⟨9, true, _, _⟩, ⟨10, true, _, _⟩, ⟨11, true, _, _⟩] [⟨6, _, _⟩, ⟨8, _, _⟩, ⟨11, _, _⟩] (fun k => [⟨12, true, [], kI (k : Int)⟩]) (fun k => [⟨27, [], cArr false 3 eI (letK x o c k) (2 * o.1.length)⟩]) (fun k => k ≤ o.1.length) (fun k => k = o.1.length) (fun k => o.1.length - k) (0) (Nat.zero_le _) (Ent.mk (.i rfl (by first | rfl | omega | (simp; done) | (simp; omega) | assumption) <| .k rfl rfl <| .k rfl rfl <| .k rfl rfl <| .k rfl rfl <| .k rfl rfl <| .k rfl rfl <| .k rfl rfl <| .nil) (.a (by rw [show ((2 : Int) * o.1.length).toNat = 2 * o.1.length by omega]; exact letK_zero) (by omega) <| .k rfl <| .k rfl <| .k rfl <| .nil) rfl) ?_ ?_
    · intro k hR0
      refine Tr.norm (S' := [⟨12, true, _, _⟩, ⟨1, true, _, _⟩, ⟨2, true, _, _⟩, ⟨6, true, _, _⟩, ⟨8, true, _, _⟩, ⟨9, true, _, _⟩, ⟨10, true, _, _⟩, ⟨11, true, _, _⟩]) (M' := [⟨27, _, _⟩, ⟨6, _, _⟩, ⟨8, _, _⟩, ⟨11, _, _⟩]) rfl rfl ?_
      refine Tr.seq ?_
      refine Tr.seq ?_
      refine Tr.rg ?_
      refine TrL.op (ok_move rfl (fun _ => rfl)) rfl rfl ?_
      refine TrL.op (ok_move rfl (fun _ => rfl)) rfl rfl ?_
      refine TrL.op (ok_lss rfl (fun _ => rfl) rfl (fun _ => rfl)) rfl rfl ?_
      refine TrL.fin ?_
      refine End.nxt ?_
      refine Tr.cnd rfl ?_ ?_
      · intro h14
        replace h14 := of_decide_eq_true h14
        refine Tr.skip ?_
        refine End.nxt ?_
        refine Tr.seq ?_
        refine Tr.blk ?_
        refine Tr.seq ?_
        refine Tr.draw 11 mixed (by kernel_rfl) ?_
        have a1 := v.ri (i := k) (by omega)
        have a2 := v.ui (i := k) (by omega)
        have a3 := invR v (i := k) (by omega)
        have a4 := invU v (i := k) (by omega)
        have a5 := v.ui (i := (nth (invL o.1) k).toNat) (by omega)
        have a6 := invR v (i := (nth o.2 (nth (invL o.1) k).toNat).toNat) (by omega)
        have a7 := v.ri (i := (nth o.2 k).toNat) (by omega)
        refine RunD.op (ok_move rfl (fun _ => rfl)) rfl rfl ?_
        refine RunD.op (ok_move rfl (fun _ => rfl)) rfl rfl ?_
        first | refine RunD.op (ok_idxN rfl (fun _ => rfl) rfl (fun _ => rfl) rfl (fun _ => by omega)) rfl rfl ?_ | refine RunD.op (ok_idxP rfl (fun _ => rfl) rfl (fun _ => rfl) rfl (fun _ => by omega)) rfl rfl ?_
        refine RunD.op (ok_ldP rfl (fun _ => rfl) rfl) rfl rfl ?_
        refine RunD.op (ok_move rfl (fun _ => rfl)) rfl rfl ?_
        refine RunD.op (ok_move rfl (fun _ => rfl)) rfl rfl ?_
        refine RunD.op (ok_move rfl (fun _ => rfl)) rfl rfl ?_
        refine RunD.op (ok_add rfl (fun _ => rfl) rfl (fun _ => rfl) (fun _ => by omega)) rfl rfl ?_
        first | refine RunD.op (ok_idxN rfl (fun _ => rfl) rfl (fun _ => rfl) rfl (fun _ => by omega)) rfl rfl ?_ | refine RunD.op (ok_idxP rfl (fun _ => rfl) rfl (fun _ => rfl) rfl (fun _ => by omega)) rfl rfl ?_
        refine RunD.op (ok_ldP rfl (fun _ => rfl) rfl) rfl rfl ?_
        refine RunD.op (ok_assign rfl (fun _ => rfl)) rfl rfl ?_
        refine RunD.z ?_
        refine TrL.op (ok_assign rfl (fun _ => rfl)) rfl rfl ?_
        refine TrL.fin ?_
        refine End.nxt ?_
        refine Tr.seq ?_
        refine Tr.rg ?_
        refine TrL.op (ok_move rfl (fun _ => rfl)) rfl rfl ?_
        refine TrL.fin ?_
        refine End.nxt ?_
        refine Tr.blk ?_
        refine Tr.seq ?_
        refine Tr.rg ?_
        refine TrL.op (ok_eql rfl (fun _ => rfl) rfl (fun _ => rfl)) rfl rfl ?_
        refine TrL.op (ok_assign rfl (fun _ => rfl)) rfl rfl ?_
        refine TrL.fin ?_
        refine End.nxt ?_
        refine Tr.cnd rfl ?_ ?_
        · intro h20
          try simp only [decide_eq_true_eq] at h20
          refine Tr.seq ?_
          refine Tr.rg ?_
          refine TrL.op (ok_fldO rfl (fun _ => rfl)) rfl rfl ?_
          refine TrL.op (ok_ldB rfl (fun _ => rfl) rfl) rfl rfl ?_
          refine TrL.op (ok_move rfl (fun _ => rfl)) rfl rfl ?_
          first | refine TrL.op (ok_idxN rfl (fun _ => rfl) rfl (fun _ => rfl) rfl (fun _ => by omega)) rfl rfl ?_ | refine TrL.op (ok_idxP rfl (fun _ => rfl) rfl (fun _ => rfl) rfl (fun _ => by omega)) rfl rfl ?_
          refine TrL.op (ok_ldP rfl (fun _ => rfl) rfl) rfl rfl ?_
          refine TrL.op (ok_assign rfl (fun _ => rfl)) rfl rfl ?_
          refine TrL.fin ?_
          refine End.nxt ?_
          refine Tr.seq ?_
          refine Tr.draw 7 mixed (by kernel_rfl) ?_
          refine RunD.op (ok_fldO rfl (fun _ => rfl)) rfl rfl ?_
          refine RunD.op (ok_ldB rfl (fun _ => rfl) rfl) rfl rfl ?_
          refine RunD.op (ok_fldO rfl (fun _ => rfl)) rfl rfl ?_
          refine RunD.op (ok_ldB rfl (fun _ => rfl) rfl) rfl rfl ?_
          refine RunD.op (ok_move rfl (fun _ => rfl)) rfl rfl ?_
          first | refine RunD.op (ok_idxN rfl (fun _ => rfl) rfl (fun _ => rfl) rfl (fun _ => by omega)) rfl rfl ?_ | refine RunD.op (ok_idxP rfl (fun _ => rfl) rfl (fun _ => rfl) rfl (fun _ => by omega)) rfl rfl ?_
          refine RunD.op (ok_ldP rfl (fun _ => rfl) rfl) rfl rfl ?_
          refine RunD.z ?_
          first | refine TrL.op (ok_idxN rfl (fun _ => rfl) rfl (fun _ => rfl) rfl (fun _ => by omega)) rfl rfl ?_ | refine TrL.op (ok_idxP rfl (fun _ => rfl) rfl (fun _ => rfl) rfl (fun _ => by omega)) rfl rfl ?_
          refine TrL.op (ok_ldP rfl (fun _ => rfl) rfl) rfl rfl ?_
          refine TrL.op (ok_assign rfl (fun _ => rfl)) rfl rfl ?_
          refine TrL.fin ?_
          refine End.nxt ?_
          refine Tr.seq ?_
          refine Tr.rg ?_
          refine TrL.op (ok_move rfl (fun _ => rfl)) rfl rfl ?_
          refine TrL.op (ok_move rfl (fun _ => rfl)) rfl rfl ?_
          refine TrL.op (ok_move rfl (fun _ => rfl)) rfl rfl ?_
          refine TrL.op (ok_move rfl (fun _ => rfl)) rfl rfl ?_
          refine TrL.op (ok_idxE rfl (fun _ => rfl) rfl (fun _ => rfl) (fun _ => by omega)) rfl rfl ?_
          refine TrL.op (ok_ldE rfl (fun _ => rfl) rfl rfl rfl) rfl rfl ?_
          refine TrL.op (ok_move rfl (fun _ => rfl)) rfl rfl ?_
          refine TrL.op (ok_addW rfl (fun _ => rfl) rfl (fun _ => rfl)) rfl rfl ?_
          refine TrL.op (ok_idxE rfl (fun _ => rfl) rfl (fun _ => rfl) (fun _ => by omega)) rfl rfl ?_
          refine TrL.stE rfl rfl rfl rfl rfl ?_
          refine TrL.fin ?_
          refine End.nxt ?_
          refine Tr.seq ?_
          refine Tr.rg ?_
          refine TrL.op (ok_move rfl (fun _ => rfl)) rfl rfl ?_
          refine TrL.op (ok_move rfl (fun _ => rfl)) rfl rfl ?_
          refine TrL.op (ok_move rfl (fun _ => rfl)) rfl rfl ?_
          refine TrL.op (ok_add rfl (fun _ => rfl) rfl (fun _ => rfl) (fun _ => by omega)) rfl rfl ?_
          refine TrL.op (ok_move rfl (fun _ => rfl)) rfl rfl ?_
          refine TrL.op (ok_move rfl (fun _ => rfl)) rfl rfl ?_
          refine TrL.op (ok_move rfl (fun _ => rfl)) rfl rfl ?_
          refine TrL.op (ok_add rfl (fun _ => rfl) rfl (fun _ => rfl) (fun _ => by omega)) rfl rfl ?_
          refine TrL.op (ok_idxE rfl (fun _ => rfl) rfl (fun _ => rfl) (fun _ => by omega)) rfl rfl ?_
          refine TrL.op (ok_ldE rfl (fun _ => rfl) rfl rfl rfl) rfl rfl ?_
          refine TrL.op (ok_move rfl (fun _ => rfl)) rfl rfl ?_
          refine TrL.op (ok_addW rfl (fun _ => rfl) rfl (fun _ => rfl)) rfl rfl ?_
          refine TrL.op (ok_idxE rfl (fun _ => rfl) rfl (fun _ => rfl) (fun _ => by omega)) rfl rfl ?_
          refine TrL.stE rfl rfl rfl rfl rfl ?_
          refine TrL.fin ?_
          refine End.nxt ?_
          refine Tr.rg ?_
          refine TrL.op (ok_move rfl (fun _ => rfl)) rfl rfl ?_
          refine TrL.op (ok_move rfl (fun _ => rfl)) rfl rfl ?_
          refine TrL.op (ok_move rfl (fun _ => rfl)) rfl rfl ?_
          refine TrL.op (ok_move rfl (fun _ => rfl)) rfl rfl ?_
          refine TrL.op (ok_idxE rfl (fun _ => rfl) rfl (fun _ => rfl) (fun _ => by omega)) rfl rfl ?_
          refine TrL.op (ok_ldE rfl (fun _ => rfl) rfl rfl rfl) rfl rfl ?_
          refine TrL.op (ok_move rfl (fun _ => rfl)) rfl rfl ?_
          refine TrL.op (ok_addW rfl (fun _ => rfl) rfl (fun _ => rfl)) rfl rfl ?_
          refine TrL.op (ok_idxE rfl (fun _ => rfl) rfl (fun _ => rfl) (fun _ => by omega)) rfl rfl ?_
          refine TrL.stE rfl rfl rfl rfl rfl ?_
          refine TrL.fin ?_
          refine End.blk ?_
          refine End.blk ?_
          refine End.nxt ?_
          refine Tr.rg ?_
          refine TrL.op (ok_move rfl (fun _ => rfl)) rfl rfl ?_
          refine TrL.op (ok_add rfl (fun _ => rfl) rfl (fun _ => rfl) (fun _ => by omega)) rfl rfl ?_
          refine TrL.op (ok_assign rfl (fun _ => rfl)) rfl rfl ?_
          refine TrL.fin ?_
          exact End.lp (k + 1) (by first | rfl | omega | (simp; done) | (simp; omega) | assumption) (by omega) (Ent.mk (.i rfl (by first | rfl | omega | (simp; done) | (simp; omega) | assumption) <| .k rfl rfl <| .k rfl rfl <| .k rfl rfl <| .k rfl rfl <| .k rfl rfl <| .k rfl rfl <| .k rfl rfl <| .nil) (.a (by subst h20; exact letK_succ v (by omega) rfl W_one rfl W_one rfl W_one) (by first | rfl | omega | (simp; done) | (simp; omega) | assumption) <| .k rfl <| .k rfl <| .k rfl <| .nil) rfl)
        · intro h20
          try simp only [decide_eq_false_iff_not] at h20
          refine Tr.seq ?_
          refine Tr.rg ?_
          refine TrL.op (ok_eql rfl (fun _ => rfl) rfl (fun _ => rfl)) rfl rfl ?_
          refine TrL.op (ok_assign rfl (fun _ => rfl)) rfl rfl ?_
          refine TrL.fin ?_
          refine End.nxt ?_
          refine Tr.cnd rfl ?_ ?_
          · intro h26
            try simp only [decide_eq_true_eq] at h26
            refine Tr.seq ?_
            refine Tr.rg ?_
            refine TrL.op (ok_fldO rfl (fun _ => rfl)) rfl rfl ?_
            refine TrL.op (ok_ldB rfl (fun _ => rfl) rfl) rfl rfl ?_
            refine TrL.op (ok_move rfl (fun _ => rfl)) rfl rfl ?_
            first | refine TrL.op (ok_idxN rfl (fun _ => rfl) rfl (fun _ => rfl) rfl (fun _ => by omega)) rfl rfl ?_ | refine TrL.op (ok_idxP rfl (fun _ => rfl) rfl (fun _ => rfl) rfl (fun _ => by omega)) rfl rfl ?_
            refine TrL.op (ok_ldP rfl (fun _ => rfl) rfl) rfl rfl ?_
            refine TrL.op (ok_assign rfl (fun _ => rfl)) rfl rfl ?_
            refine TrL.fin ?_
            refine End.nxt ?_
            refine Tr.seq ?_
            refine Tr.draw 7 mixed (by kernel_rfl) ?_
            refine RunD.op (ok_fldO rfl (fun _ => rfl)) rfl rfl ?_
            refine RunD.op (ok_ldB rfl (fun _ => rfl) rfl) rfl rfl ?_
            refine RunD.op (ok_fldO rfl (fun _ => rfl)) rfl rfl ?_
            refine RunD.op (ok_ldB rfl (fun _ => rfl) rfl) rfl rfl ?_
            refine RunD.op (ok_move rfl (fun _ => rfl)) rfl rfl ?_
            first | refine RunD.op (ok_idxN rfl (fun _ => rfl) rfl (fun _ => rfl) rfl (fun _ => by omega)) rfl rfl ?_ | refine RunD.op (ok_idxP rfl (fun _ => rfl) rfl (fun _ => rfl) rfl (fun _ => by omega)) rfl rfl ?_
            refine RunD.op (ok_ldP rfl (fun _ => rfl) rfl) rfl rfl ?_
            refine RunD.z ?_
            first | refine TrL.op (ok_idxN rfl (fun _ => rfl) rfl (fun _ => rfl) rfl (fun _ => by omega)) rfl rfl ?_ | refine TrL.op (ok_idxP rfl (fun _ => rfl) rfl (fun _ => rfl) rfl (fun _ => by omega)) rfl rfl ?_
            refine TrL.op (ok_ldP rfl (fun _ => rfl) rfl) rfl rfl ?_
            refine TrL.op (ok_assign rfl (fun _ => rfl)) rfl rfl ?_
            refine TrL.fin ?_
            refine End.nxt ?_
            refine Tr.seq ?_
            refine Tr.rg ?_
            refine TrL.op (ok_move rfl (fun _ => rfl)) rfl rfl ?_
            refine TrL.op (ok_move rfl (fun _ => rfl)) rfl rfl ?_
            refine TrL.op (ok_move rfl (fun _ => rfl)) rfl rfl ?_
            refine TrL.op (ok_move rfl (fun _ => rfl)) rfl rfl ?_
            refine TrL.op (ok_idxE rfl (fun _ => rfl) rfl (fun _ => rfl) (fun _ => by omega)) rfl rfl ?_
            refine TrL.op (ok_ldE rfl (fun _ => rfl) rfl rfl rfl) rfl rfl ?_
            refine TrL.op (ok_move rfl (fun _ => rfl)) rfl rfl ?_
            refine TrL.op (ok_addW rfl (fun _ => rfl) rfl (fun _ => rfl)) rfl rfl ?_
            refine TrL.op (ok_idxE rfl (fun _ => rfl) rfl (fun _ => rfl) (fun _ => by omega)) rfl rfl ?_
            refine TrL.stE rfl rfl rfl rfl rfl ?_
            refine TrL.fin ?_
            refine End.nxt ?_
            refine Tr.seq ?_
            refine Tr.rg ?_
            refine TrL.op (ok_move rfl (fun _ => rfl)) rfl rfl ?_
            refine TrL.op (ok_move rfl (fun _ => rfl)) rfl rfl ?_
            refine TrL.op (ok_move rfl (fun _ => rfl)) rfl rfl ?_
            refine TrL.op (ok_add rfl (fun _ => rfl) rfl (fun _ => rfl) (fun _ => by omega)) rfl rfl ?_
            refine TrL.op (ok_move rfl (fun _ => rfl)) rfl rfl ?_
            refine TrL.op (ok_move rfl (fun _ => rfl)) rfl rfl ?_
            refine TrL.op (ok_move rfl (fun _ => rfl)) rfl rfl ?_
            refine TrL.op (ok_add rfl (fun _ => rfl) rfl (fun _ => rfl) (fun _ => by omega)) rfl rfl ?_
            refine TrL.op (ok_idxE rfl (fun _ => rfl) rfl (fun _ => rfl) (fun _ => by omega)) rfl rfl ?_
            refine TrL.op (ok_ldE rfl (fun _ => rfl) rfl rfl rfl) rfl rfl ?_
            refine TrL.op (ok_move rfl (fun _ => rfl)) rfl rfl ?_
            refine TrL.op (ok_addW rfl (fun _ => rfl) rfl (fun _ => rfl)) rfl rfl ?_
            refine TrL.op (ok_idxE rfl (fun _ => rfl) rfl (fun _ => rfl) (fun _ => by omega)) rfl rfl ?_
            refine TrL.stE rfl rfl rfl rfl rfl ?_
            refine TrL.fin ?_
            refine End.nxt ?_
            refine Tr.rg ?_
            refine TrL.op (ok_move rfl (fun _ => rfl)) rfl rfl ?_
            refine TrL.op (ok_move rfl (fun _ => rfl)) rfl rfl ?_
            refine TrL.op (ok_move rfl (fun _ => rfl)) rfl rfl ?_
            refine TrL.op (ok_move rfl (fun _ => rfl)) rfl rfl ?_
            refine TrL.op (ok_idxE rfl (fun _ => rfl) rfl (fun _ => rfl) (fun _ => by omega)) rfl rfl ?_
            refine TrL.op (ok_ldE rfl (fun _ => rfl) rfl rfl rfl) rfl rfl ?_
            refine TrL.op (ok_move rfl (fun _ => rfl)) rfl rfl ?_
            refine TrL.op (ok_subW rfl (fun _ => rfl) rfl (fun _ => rfl)) rfl rfl ?_
            refine TrL.op (ok_idxE rfl (fun _ => rfl) rfl (fun _ => rfl) (fun _ => by omega)) rfl rfl ?_
            refine TrL.stE rfl rfl rfl rfl rfl ?_
            refine TrL.fin ?_
            refine End.blk ?_
            refine End.blk ?_
            refine End.nxt ?_
            refine Tr.rg ?_
            refine TrL.op (ok_move rfl (fun _ => rfl)) rfl rfl ?_
            refine TrL.op (ok_add rfl (fun _ => rfl) rfl (fun _ => rfl) (fun _ => by omega)) rfl rfl ?_
            refine TrL.op (ok_assign rfl (fun _ => rfl)) rfl rfl ?_
            refine TrL.fin ?_
            exact End.lp (k + 1) (by first | rfl | omega | (simp; done) | (simp; omega) | assumption) (by omega) (Ent.mk (.i rfl (by first | rfl | omega | (simp; done) | (simp; omega) | assumption) <| .k rfl rfl <| .k rfl rfl <| .k rfl rfl <| .k rfl rfl <| .k rfl rfl <| .k rfl rfl <| .k rfl rfl <| .nil) (.a (by subst h26; exact letK_succ v (by omega) rfl W_one rfl W_one rfl W_mone) (by first | rfl | omega | (simp; done) | (simp; omega) | assumption) <| .k rfl <| .k rfl <| .k rfl <| .nil) rfl)
          · intro h26
            try simp only [decide_eq_false_iff_not] at h26
            refine Tr.seq ?_
            refine Tr.rg ?_
            refine TrL.op (ok_eql rfl (fun _ => rfl) rfl (fun _ => rfl)) rfl rfl ?_
            refine TrL.op (ok_assign rfl (fun _ => rfl)) rfl rfl ?_
            refine TrL.fin ?_
            refine End.nxt ?_
            refine Tr.cnd rfl ?_ ?_
            · intro h32
              try simp only [decide_eq_true_eq] at h32
              refine Tr.seq ?_
              refine Tr.rg ?_
              refine TrL.op (ok_move rfl (fun _ => rfl)) rfl rfl ?_
              refine TrL.op (ok_fldO rfl (fun _ => rfl)) rfl rfl ?_
              refine TrL.op (ok_ldB rfl (fun _ => rfl) rfl) rfl rfl ?_
              refine TrL.op (ok_move rfl (fun _ => rfl)) rfl rfl ?_
              first | refine TrL.op (ok_idxN rfl (fun _ => rfl) rfl (fun _ => rfl) rfl (fun _ => by omega)) rfl rfl ?_ | refine TrL.op (ok_idxP rfl (fun _ => rfl) rfl (fun _ => rfl) rfl (fun _ => by omega)) rfl rfl ?_
              refine TrL.op (ok_ldP rfl (fun _ => rfl) rfl) rfl rfl ?_
              refine TrL.op (ok_add rfl (fun _ => rfl) rfl (fun _ => rfl) (fun _ => by omega)) rfl rfl ?_
              refine TrL.op (ok_assign rfl (fun _ => rfl)) rfl rfl ?_
              refine TrL.fin ?_
              refine End.nxt ?_
              refine Tr.drawS 17 27 mixed (by kernel_rfl) ?_
              refine RunS.opA (ok_move rfl (fun _ => rfl)) (by kernel_rfl) rfl rfl ?_
              refine RunS.opA (ok_move rfl (fun _ => rfl)) (by kernel_rfl) rfl rfl ?_
              refine RunS.op (ok_move rfl (fun _ => rfl)) rfl rfl ?_
              refine RunS.op (ok_move rfl (fun _ => rfl)) rfl rfl ?_
              refine RunS.opA (ok_move rfl (fun _ => rfl)) (by kernel_rfl) rfl rfl ?_
              refine RunS.opA (ok_move rfl (fun _ => rfl)) (by kernel_rfl) rfl rfl ?_
              refine RunS.opA (ok_idxE rfl (fun _ => rfl) rfl (fun _ => rfl) (fun _ => by omega)) (by kernel_rfl) rfl rfl ?_
              refine RunS.opA (ok_ldE rfl (fun _ => rfl) rfl rfl rfl) (by kernel_rfl) rfl rfl ?_
              refine RunS.opA (ok_move rfl (fun _ => rfl)) (by kernel_rfl) rfl rfl ?_
              refine RunS.opA (ok_addW rfl (fun _ => rfl) rfl (fun _ => rfl)) (by kernel_rfl) rfl rfl ?_
              refine RunS.opA (ok_move rfl (fun _ => rfl)) (by kernel_rfl) rfl rfl ?_
              refine RunS.opA (ok_move rfl (fun _ => rfl)) (by kernel_rfl) rfl rfl ?_
              refine RunS.opA (ok_idxE rfl (fun _ => rfl) rfl (fun _ => rfl) (fun _ => by omega)) (by kernel_rfl) rfl rfl ?_
              refine RunS.opA (ok_ldE rfl (fun _ => rfl) rfl rfl rfl) (by kernel_rfl) rfl rfl ?_
              refine RunS.op (ok_move rfl (fun _ => rfl)) rfl rfl ?_
              refine RunS.op (ok_subW rfl (fun _ => rfl) rfl (fun _ => rfl)) rfl rfl ?_
              refine RunS.opA (ok_idxE rfl (fun _ => rfl) rfl (fun _ => rfl) (fun _ => by omega)) (by kernel_rfl) rfl rfl ?_
              refine RunS.z (st_E rfl rfl rfl rfl rfl) rfl rfl rfl ?_
              refine TrL.op (ok_idxE rfl (fun _ => rfl) rfl (fun _ => rfl) (fun _ => by omega)) rfl rfl ?_
              refine TrL.stE rfl rfl rfl rfl rfl ?_
              refine TrL.fin ?_
              refine End.blk ?_
              refine End.blk ?_
              refine End.nxt ?_
              refine Tr.rg ?_
              refine TrL.op (ok_move rfl (fun _ => rfl)) rfl rfl ?_
              refine TrL.op (ok_add rfl (fun _ => rfl) rfl (fun _ => rfl) (fun _ => by omega)) rfl rfl ?_
              refine TrL.op (ok_assign rfl (fun _ => rfl)) rfl rfl ?_
              refine TrL.fin ?_
              exact End.lp (k + 1) (by first | rfl | omega | (simp; done) | (simp; omega) | assumption) (by omega) (Ent.mk (.i rfl (by first | rfl | omega | (simp; done) | (simp; omega) | assumption) <| .k rfl rfl <| .k rfl rfl <| .k rfl rfl <| .k rfl rfl <| .k rfl rfl <| .k rfl rfl <| .k rfl rfl <| .nil) (.a (by subst h32; exact letK_two v (by omega) rfl rfl W_one rfl (par_sub (by show ((o.1.length : Int) + nth (invL o.2) k).toNat ≠ k; omega) (by rw [letK_len]; omega))) (by first | rfl | omega | (simp; done) | (simp; omega) | assumption) <| .k rfl <| .k rfl <| .k rfl <| .nil) rfl)
            · intro h32
              try simp only [decide_eq_false_iff_not] at h32
              refine Tr.seq ?_
              refine Tr.rg ?_
              refine TrL.op (ok_fldO rfl (fun _ => rfl)) rfl rfl ?_
              refine TrL.op (ok_ldB rfl (fun _ => rfl) rfl) rfl rfl ?_
              refine TrL.op (ok_move rfl (fun _ => rfl)) rfl rfl ?_
              first | refine TrL.op (ok_idxN rfl (fun _ => rfl) rfl (fun _ => rfl) rfl (fun _ => by omega)) rfl rfl ?_ | refine TrL.op (ok_idxP rfl (fun _ => rfl) rfl (fun _ => rfl) rfl (fun _ => by omega)) rfl rfl ?_
              refine TrL.op (ok_ldP rfl (fun _ => rfl) rfl) rfl rfl ?_
              refine TrL.op (ok_assign rfl (fun _ => rfl)) rfl rfl ?_
              refine TrL.fin ?_
              refine End.nxt ?_
              refine Tr.drawS 21 27 mixed (by kernel_rfl) ?_
              refine RunS.opA (ok_move rfl (fun _ => rfl)) (by kernel_rfl) rfl rfl ?_
              refine RunS.opA (ok_move rfl (fun _ => rfl)) (by kernel_rfl) rfl rfl ?_
              refine RunS.opA (ok_move rfl (fun _ => rfl)) (by kernel_rfl) rfl rfl ?_
              refine RunS.opA (ok_add rfl (fun _ => rfl) rfl (fun _ => rfl) (fun _ => by omega)) (by kernel_rfl) rfl rfl ?_
              refine RunS.op (ok_move rfl (fun _ => rfl)) rfl rfl ?_
              refine RunS.op (ok_move rfl (fun _ => rfl)) rfl rfl ?_
              refine RunS.opA (ok_move rfl (fun _ => rfl)) (by kernel_rfl) rfl rfl ?_
              refine RunS.opA (ok_move rfl (fun _ => rfl)) (by kernel_rfl) rfl rfl ?_
              refine RunS.opA (ok_move rfl (fun _ => rfl)) (by kernel_rfl) rfl rfl ?_
              refine RunS.opA (ok_add rfl (fun _ => rfl) rfl (fun _ => rfl) (fun _ => by omega)) (by kernel_rfl) rfl rfl ?_
              refine RunS.opA (ok_idxE rfl (fun _ => rfl) rfl (fun _ => rfl) (fun _ => by omega)) (by kernel_rfl) rfl rfl ?_
              refine RunS.opA (ok_ldE rfl (fun _ => rfl) rfl rfl rfl) (by kernel_rfl) rfl rfl ?_
              refine RunS.opA (ok_move rfl (fun _ => rfl)) (by kernel_rfl) rfl rfl ?_
              refine RunS.opA (ok_subW rfl (fun _ => rfl) rfl (fun _ => rfl)) (by kernel_rfl) rfl rfl ?_
              refine RunS.opA (ok_move rfl (fun _ => rfl)) (by kernel_rfl) rfl rfl ?_
              refine RunS.opA (ok_move rfl (fun _ => rfl)) (by kernel_rfl) rfl rfl ?_
              refine RunS.opA (ok_idxE rfl (fun _ => rfl) rfl (fun _ => rfl) (fun _ => by omega)) (by kernel_rfl) rfl rfl ?_
              refine RunS.opA (ok_ldE rfl (fun _ => rfl) rfl rfl rfl) (by kernel_rfl) rfl rfl ?_
              refine RunS.op (ok_move rfl (fun _ => rfl)) rfl rfl ?_
              refine RunS.op (ok_addW rfl (fun _ => rfl) rfl (fun _ => rfl)) rfl rfl ?_
              refine RunS.opA (ok_idxE rfl (fun _ => rfl) rfl (fun _ => rfl) (fun _ => by omega)) (by kernel_rfl) rfl rfl ?_
              refine RunS.z (st_E rfl rfl rfl rfl rfl) rfl rfl rfl ?_
              refine TrL.op (ok_idxE rfl (fun _ => rfl) rfl (fun _ => rfl) (fun _ => by omega)) rfl rfl ?_
              refine TrL.stE rfl rfl rfl rfl rfl ?_
              refine TrL.fin ?_
              refine End.blk ?_
              refine End.blk ?_
              refine End.nxt ?_
              refine Tr.rg ?_
              refine TrL.op (ok_move rfl (fun _ => rfl)) rfl rfl ?_
              refine TrL.op (ok_add rfl (fun _ => rfl) rfl (fun _ => rfl) (fun _ => by omega)) rfl rfl ?_
              refine TrL.op (ok_assign rfl (fun _ => rfl)) rfl rfl ?_
              refine TrL.fin ?_
              exact End.lp (k + 1) (by first | rfl | omega | (simp; done) | (simp; omega) | assumption) (by omega) (Ent.mk (.i rfl (by first | rfl | omega | (simp; done) | (simp; omega) | assumption) <| .k rfl rfl <| .k rfl rfl <| .k rfl rfl <| .k rfl rfl <| .k rfl rfl <| .k rfl rfl <| .k rfl rfl <| .nil) (.a (by (have hq := isLet_cases hx; obtain rfl : x = 115 := by omega); exact letK_two v (by omega) rfl rfl W_mone rfl (par_add (by show ((o.1.length : Int) + k).toNat ≠ (nth (invL o.1) k).toNat; omega) (by rw [letK_len]; omega))) (by first | rfl | omega | (simp; done) | (simp; omega) | assumption) <| .k rfl <| .k rfl <| .k rfl <| .nil) rfl)
      · intro h14
        replace h14 := Int.not_lt.1 (of_decide_eq_false h14)
        refine Tr.exit ?_
        refine Exs.thn ?_
        refine Exs.thn ?_
        refine Exs.here ?_
        exact End.cut (k) (by omega) (Ent.mk (.i rfl (by first | rfl | omega | (simp; done) | (simp; omega) | assumption) <| .k rfl rfl <| .k rfl rfl <| .k rfl rfl <| .k rfl rfl <| .k rfl rfl <| .k rfl rfl <| .k rfl rfl <| .nil) (.a (by first | rfl | omega | (simp; done) | (simp; omega) | assumption) (by first | rfl | omega | (simp; done) | (simp; omega) | assumption) <| .k rfl <| .k rfl <| .k rfl <| .nil) rfl)
    · rintro _ rfl
      refine End.norm (S' := [⟨12, true, _, _⟩, ⟨1, true, _, _⟩, ⟨2, true, _, _⟩, ⟨6, true, _, _⟩, ⟨8, true, _, _⟩, ⟨9, true, _, _⟩, ⟨10, true, _, _⟩, ⟨11, true, _, _⟩]) (M' := [⟨27, _, _⟩, ⟨6, _, _⟩, ⟨8, _, _⟩, ⟨11, _, _⟩]) rfl rfl ?_
      refine End.nxt ?_
      refine Tr.seq ?_
      refine Tr.rg ?_
      refine TrL.op (ok_ldBS rfl (fun _ => rfl)) rfl rfl ?_
      refine TrL.op (ok_move rfl (fun _ => rfl)) rfl rfl ?_
      refine TrL.stB rfl rfl rfl rfl ?_
      refine TrL.op (ok_assign rfl (fun _ => rfl)) rfl rfl ?_
      refine TrL.fin ?_
      refine End.nxt ?_
      refine Tr.frz 27 [7] ⟨rfl, trivial⟩ (by simp only [lenMax]; omega) rfl ?_
      refine Tr.ret ?_
      exact Rts.resC (fn := Tryd.f49) (ts := [7]) rfl rfl rfl (aggRd rfl (by rfl)) (.r rfl (by rfl) <| .nil)

set_option maxRecDepth 100000 in
set_option maxHeartbeats 1000000 in
theorem ct_rPush (o : Ori) (s : ByteArray) (c : List Int) (v : Valid o) (hw : (bs s).all isLet = true) (hwl : (bs s).length ≤ 20) (hc : c.length = 2 * o.1.length) : Ct Tryd.prog 19 [kRd eO o, kS s, kRd (eL eI) c] (kTup [kRd eO (pO (bs s) o), kRd (eL eI) (pC (bs s) o c)]) := by
  have hbl := bs_len (s := s)
  have hv0 := v.pos
  have hv1 := v.len
  have hv2 := v.le
  have hl1 := invL_len o.1
  have hl2 := invL_len o.2
  refine Ct.mk Tryd.func19 rfl Tryd.ntmps19 rfl (fun w J => ?_)
  refine Tr.seq ?_
  refine Tr.rg ?_
  refine TrL.new (ok_box 3 rfl (fun _ => rfl) rfl) rfl rfl rfl rfl ?_
  refine TrL.new (ok_alloc 6) rfl rfl rfl rfl ?_
  refine TrL.op (ok_assign rfl (fun _ => rfl)) rfl rfl ?_
  refine TrL.fin ?_
  refine End.nxt ?_
  refine Tr.seq ?_
  refine Tr.draw 10 mixed (by kernel_rfl) ?_
  refine RunD.op (ok_fldO rfl (fun _ => rfl)) rfl rfl ?_
  refine RunD.op (ok_ldB rfl (fun _ => rfl) rfl) rfl rfl ?_
  refine RunD.op (ok_call (fun hp => ct_CopyInts _ (by omega)) (.a rfl (fun _ => rfl) <| .nil)) rfl rfl ?_
  refine RunD.op (ok_fldO rfl (fun _ => rfl)) rfl rfl ?_
  refine RunD.op (ok_ldB rfl (fun _ => rfl) rfl) rfl rfl ?_
  refine RunD.op (ok_call (fun hp => ct_CopyInts _ (by omega)) (.a rfl (fun _ => rfl) <| .nil)) rfl rfl ?_
  refine RunD.op (ok_build (fun hp => .cons rfl rfl rfl <| .cons rfl rfl rfl <| .nil)) rfl rfl ?_
  refine RunD.op (ok_move rfl (fun _ => rfl)) rfl rfl ?_
  refine RunD.op (ok_call (fun hp => ct_CopyInts _ (by omega)) (.a rfl (fun _ => rfl) <| .nil)) rfl rfl ?_
  refine RunD.new (ok_alloc 8) rfl rfl rfl rfl ?_
  refine RunD.z ?_
  refine TrL.stB rfl rfl rfl rfl ?_
  refine TrL.op (ok_assign rfl (fun _ => rfl)) rfl rfl ?_
  refine TrL.fin ?_
  refine End.nxt ?_
  refine Tr.seq ?_
  refine Tr.seq ?_
  refine Tr.rg ?_
  refine TrL.op (ok_move rfl (fun _ => rfl)) rfl rfl ?_
  refine TrL.op (ok_lenS rfl (fun _ => rfl)) rfl rfl ?_
  refine TrL.op (ok_sub rfl (fun _ => rfl) rfl (fun _ => rfl) (fun _ => by omega)) rfl rfl ?_
  refine TrL.op (ok_assign rfl (fun _ => rfl)) rfl rfl ?_
  refine TrL.fin ?_
  refine End.nxt ?_
  refine Tr.for1 (σ := Nat) [⟨1, true, _, _⟩, ⟨6, true, _, _⟩, ⟨8, true, _, _⟩] [⟨6, _, _⟩] (fun j => [⟨9, true, [], kRd (eL eI) (pC ((bs s).drop j) o c)⟩, ⟨10, true, [], kI ((j : Int) - 1)⟩]) (fun j => [⟨8, [], cBlk [kRd (eL eI) (pO ((bs s).drop j) o).1, kRd (eL eI) (pO ((bs s).drop j) o).2]⟩]) (fun j => j ≤ (bs s).length) (fun j => j = 0) (fun j => j) ((bs s).length) (by first | rfl | omega | (simp; done) | (simp; omega) | assumption) (Ent.mk (.r rfl (by rw [List.drop_length]; rfl) <| .i rfl (by first | rfl | omega | (simp; done) | (simp; omega) | assumption) <| .k rfl rfl <| .k rfl rfl <| .k rfl rfl <| .nil) (.e (by rw [List.drop_length]; rfl) rfl <| .k rfl <| .nil) rfl) ?_ ?_
  · intro j hR0
    refine Tr.norm (S' := [⟨9, true, _, _⟩, ⟨10, true, _, _⟩, ⟨1, true, _, _⟩, ⟨6, true, _, _⟩, ⟨8, true, _, _⟩]) (M' := [⟨8, _, _⟩, ⟨6, _, _⟩]) rfl rfl ?_
    have hvv := pO_valid v ((bs s).drop j)
    refine Tr.seq ?_
    refine Tr.seq ?_
    refine Tr.rg ?_
    refine TrL.op (ok_move rfl (fun _ => rfl)) rfl rfl ?_
    refine TrL.op (ok_geq rfl (fun _ => rfl) rfl (fun _ => rfl)) rfl rfl ?_
    refine TrL.fin ?_
    refine End.nxt ?_
    refine Tr.cnd rfl ?_ ?_
    · intro h3
      replace h3 := of_decide_eq_true h3
      refine Tr.skip ?_
      refine End.nxt ?_
      refine Tr.seq ?_
      refine Tr.blk ?_
      refine Tr.drawS 9 8 mixed (by kernel_rfl) ?_
      refine RunS.opA (ok_ldBS rfl (fun _ => rfl)) (by kernel_rfl) rfl rfl ?_
      refine RunS.opA (ok_move rfl (fun _ => rfl)) (by kernel_rfl) rfl rfl ?_
      refine RunS.opA (ok_move rfl (fun _ => rfl)) (by kernel_rfl) rfl rfl ?_
      refine RunS.opA (ok_idxS rfl (fun _ => rfl) (i := j - 1) (by rw [show ((j - 1 : Nat) : Int) = (j : Int) - 1 by omega]; rfl) (fun _ => rfl) (fun _ => by omega)) (by kernel_rfl) rfl rfl ?_
      refine RunS.opA (ok_move rfl (fun _ => rfl)) (by kernel_rfl) rfl rfl ?_
      refine RunS.opA (ok_call (fun hp => ct_rletter _ _ _ hvv.1 (all_drop hw (j := j - 1) (by omega)) (by rw [pC_len v hc, hvv.2])) (.s rfl (fun _ => rfl) rfl <| .a rfl (fun _ => rfl) <| .a rfl (fun _ => rfl) <| .nil)) (by kernel_rfl) rfl rfl ?_
      refine RunS.opA (ok_move rfl (fun _ => rfl)) (by kernel_rfl) rfl rfl ?_
      refine RunS.opA (ok_ext rfl (fun _ => rfl) rfl) (by kernel_rfl) rfl rfl ?_
      refine RunS.op (ok_ext rfl (fun _ => rfl) rfl) rfl rfl ?_
      refine RunS.z (st_B rfl rfl rfl) rfl rfl rfl ?_
      refine TrL.op (ok_assign rfl (fun _ => rfl)) rfl rfl ?_
      refine TrL.fin ?_
      refine End.blk ?_
      refine End.nxt ?_
      refine Tr.rg ?_
      refine TrL.op (ok_move rfl (fun _ => rfl)) rfl rfl ?_
      refine TrL.op (ok_sub rfl (fun _ => rfl) rfl (fun _ => rfl) (fun _ => by omega)) rfl rfl ?_
      refine TrL.op (ok_assign rfl (fun _ => rfl)) rfl rfl ?_
      refine TrL.fin ?_
      have hdr := drop_cons (ws := bs s) (i := j) (by omega) (by omega)
      exact End.lp (j - 1) (by first | rfl | omega | (simp; done) | (simp; omega) | assumption) (by omega) (Ent.mk (.r rfl (by rw [hdr]; rfl) <| .i rfl (by first | rfl | omega | (simp; done) | (simp; omega) | assumption) <| .k rfl rfl <| .k rfl rfl <| .k rfl rfl <| .nil) (.e (by rw [hdr]; rfl) rfl <| .k rfl <| .nil) rfl)
    · intro h3
      replace h3 := Int.not_le.1 (of_decide_eq_false h3)
      refine Tr.exit ?_
      refine Exs.thn ?_
      refine Exs.thn ?_
      refine Exs.here ?_
      exact End.cut (j) (by omega) (Ent.mk (.r rfl (by first | rfl | omega | (simp; done) | (simp; omega) | assumption) <| .i rfl (by first | rfl | omega | (simp; done) | (simp; omega) | assumption) <| .k rfl rfl <| .k rfl rfl <| .k rfl rfl <| .nil) (.k rfl <| .k rfl <| .nil) rfl)
  · rintro _ rfl
    refine End.norm (S' := [⟨9, true, _, _⟩, ⟨10, true, _, _⟩, ⟨1, true, _, _⟩, ⟨6, true, _, _⟩, ⟨8, true, _, _⟩]) (M' := [⟨8, _, _⟩, ⟨6, _, _⟩]) rfl rfl ?_
    refine End.nxt ?_
    refine Tr.seq ?_
    refine Tr.rg ?_
    refine TrL.op (ok_ldBS rfl (fun _ => rfl)) rfl rfl ?_
    refine TrL.op (ok_move rfl (fun _ => rfl)) rfl rfl ?_
    refine TrL.stB rfl rfl rfl rfl ?_
    refine TrL.op (ok_assign rfl (fun _ => rfl)) rfl rfl ?_
    refine TrL.fin ?_
    refine End.nxt ?_
    refine Tr.ret ?_
    exact Rts.resC (fn := Tryd.f19) (ts := [7]) rfl rfl rfl (aggRd rfl (by rfl)) (.r rfl (by rfl) <| .nil)

set_option maxRecDepth 100000 in
theorem ct_HomologyHolonomies (o : Ori) (s : ByteArray) (c : List Int) (hs : s.size ≤ reachBytes) : Ct Tryd.prog 3 [kRd eO o, kS s, kRd (eL eI) c] (kB true) := by
  simp only [reachBytes] at hs
  refine Ct.mk Tryd.func3 rfl Tryd.ntmps3 rfl (fun w J => ?_)
  refine Tr.seq ?_
  refine Tr.rg ?_
  refine TrL.new (ok_box 3 rfl (fun _ => rfl) rfl) rfl rfl rfl rfl ?_
  refine TrL.op (ok_assign rfl (fun _ => rfl)) rfl rfl ?_
  refine TrL.fin ?_
  refine End.nxt ?_
  refine Tr.seq ?_
  refine Tr.seq ?_
  refine Tr.rg ?_
  refine TrL.op (ok_call (fun hp => ct_awake) (.nil)) rfl rfl ?_
  refine TrL.op (ok_not rfl (fun _ => rfl)) rfl rfl ?_
  refine TrL.fin ?_
  refine End.nxt ?_
  refine Tr.cnd rfl ?_ ?_
  · intro h1
    simp at h1
  · intro h1
    refine Tr.skip ?_
    refine End.nxt ?_
    refine Tr.seq ?_
    refine Tr.seq ?_
    refine Tr.rg ?_
    refine TrL.op (ok_ldBS rfl (fun _ => rfl)) rfl rfl ?_
    refine TrL.op (ok_call (fun hp => ct_Small _) (.s rfl (fun _ => rfl) rfl <| .nil)) rfl rfl ?_
    refine TrL.op (ok_not rfl (fun _ => rfl)) rfl rfl ?_
    refine TrL.op (ok_move rfl (fun _ => rfl)) rfl rfl ?_
    refine TrL.gd rfl rfl rfl (ok_move rfl (fun _ => rfl)) rfl rfl ?_
    refine TrL.gd rfl rfl rfl (ok_call (fun hp => ct_short _) (.a rfl id <| .nil)) rfl rfl ?_
    refine TrL.gd rfl rfl rfl (ok_not rfl id) rfl rfl ?_
    refine TrL.op (ok_or rfl (fun _ => rfl) rfl (fun hp h => gdF2 ((fun _ => rfl) hp) h)) rfl rfl ?_
    refine TrL.op (ok_move rfl (fun _ => rfl)) rfl rfl ?_
    refine TrL.gd rfl rfl rfl (ok_move rfl (fun _ => rfl)) rfl rfl ?_
    refine TrL.gd rfl rfl rfl (ok_lenS rfl id) rfl rfl ?_
    refine TrL.gd rfl rfl rfl (ok_gtr rfl id rfl (fun _ => rfl)) rfl rfl ?_
    refine TrL.op (ok_or rfl (fun _ => rfl) rfl (fun hp h => gdF2 ((fun _ => rfl) hp) h)) rfl rfl ?_
    refine TrL.fin ?_
    refine End.nxt ?_
    refine Tr.cnd rfl ?_ ?_
    · intro h3
      try simp only [decide_eq_true_eq, decide_eq_false_iff_not, Bool.or_eq_true, Bool.not_eq_true', Nat.not_le] at h3
      refine Tr.seq ?_
      refine Tr.rg ?_
      refine TrL.op (ok_assign rfl (fun _ => rfl)) rfl rfl ?_
      refine TrL.fin ?_
      refine End.nxt ?_
      refine Tr.ret ?_
      refine Rts.thn ?_
      exact Rts.res1 (fn := Tryd.f3) rfl (.b rfl (by rfl) <| .nil)
    · intro h3
      try simp only [decide_eq_true_eq, decide_eq_false_iff_not, Bool.not_eq_false', Bool.or_eq_false_iff, Int.not_lt] at h3
      refine Tr.skip ?_
      refine End.nxt ?_
      refine Tr.seq ?_
      refine Tr.rg ?_
      refine TrL.op (ok_ldBS rfl (fun _ => rfl)) rfl rfl ?_
      refine TrL.op (ok_move rfl (fun _ => rfl)) rfl rfl ?_
      refine TrL.op (ok_call (fun hp => ct_hHolonomy _ _) (.s rfl (fun _ => rfl) rfl <| .a rfl (fun _ => rfl) <| .nil)) rfl rfl ?_
      refine TrL.op (ok_move rfl (fun _ => rfl)) rfl rfl ?_
      refine TrL.op (ok_ext rfl (fun _ => rfl) rfl) rfl rfl ?_
      refine TrL.op (ok_ext rfl (fun _ => rfl) rfl) rfl rfl ?_
      refine TrL.op (ok_ext rfl (fun _ => rfl) rfl) rfl rfl ?_
      refine TrL.op (ok_assign rfl (fun _ => rfl)) rfl rfl ?_
      refine TrL.op (ok_assign rfl (fun _ => rfl)) rfl rfl ?_
      refine TrL.op (ok_assign rfl (fun _ => rfl)) rfl rfl ?_
      refine TrL.fin ?_
      refine End.nxt ?_
      refine Tr.seq ?_
      refine Tr.rg ?_
      refine TrL.op (ok_ldBS rfl (fun _ => rfl)) rfl rfl ?_
      refine TrL.op (ok_move rfl (fun _ => rfl)) rfl rfl ?_
      refine TrL.op (ok_move rfl (fun _ => rfl)) rfl rfl ?_
      refine TrL.op (ok_call (fun hp => ct_hPush _ _ _ (by omega)) (.s rfl (fun _ => rfl) rfl <| .a rfl (fun _ => rfl) <| .a rfl (fun _ => rfl) <| .nil)) rfl rfl ?_
      refine TrL.op (ok_move rfl (fun _ => rfl)) rfl rfl ?_
      refine TrL.op (ok_ext rfl (fun _ => rfl) rfl) rfl rfl ?_
      refine TrL.op (ok_ext rfl (fun _ => rfl) rfl) rfl rfl ?_
      refine TrL.op (ok_ext rfl (fun _ => rfl) rfl) rfl rfl ?_
      refine TrL.new (ok_alloc 10) rfl rfl rfl rfl ?_
      refine TrL.stB rfl rfl rfl rfl ?_
      refine TrL.op (ok_assign rfl (fun _ => rfl)) rfl rfl ?_
      refine TrL.op (ok_assign rfl (fun _ => rfl)) rfl rfl ?_
      refine TrL.fin ?_
      refine End.nxt ?_
      refine Tr.seq ?_
      refine Tr.rg ?_
      refine TrL.op (ok_ldBS rfl (fun _ => rfl)) rfl rfl ?_
      refine TrL.op (ok_call (fun hp => ct_rCheck _) (.s rfl (fun _ => rfl) rfl <| .nil)) rfl rfl ?_
      refine TrL.op (ok_assign rfl (fun _ => rfl)) rfl rfl ?_
      refine TrL.fin ?_
      refine End.nxt ?_
      refine Tr.meet2 (σ := Unit) [⟨1, true, _, _⟩, ⟨2, true, _, _⟩, ⟨3, true, _, _⟩, ⟨7, true, _, _⟩, ⟨8, true, _, _⟩, ⟨9, true, _, _⟩, ⟨10, true, _, _⟩, ⟨11, true, _, _⟩, ⟨12, true, _, _⟩] [⟨3, _, _⟩, ⟨10, _, _⟩] (.k rfl rfl <| .k rfl rfl <| .k rfl rfl <| .k rfl rfl <| .k rfl rfl <| .k rfl rfl <| .k rfl rfl <| .k rfl rfl <| .k rfl rfl <| .nil) (.k rfl <| .k rfl <| .nil) (fun _ => [⟨13, true, [], kI (orE (chkO o) (chkC o.1.length c))⟩]) (fun _ => []) (fun _ => True) ?_ ?_
      · skip
        refine Tr.seq ?_
        refine Tr.rg ?_
        refine TrL.op (ok_move rfl (fun _ => rfl)) rfl rfl ?_
        refine TrL.op (ok_eql rfl (fun _ => rfl) rfl (fun _ => rfl)) rfl rfl ?_
        refine TrL.fin ?_
        refine End.nxt ?_
        refine Tr.cnd rfl ?_ ?_
        · intro h8
          replace h8 := of_decide_eq_true h8
          have v : Valid o := valid_of h8
          refine Tr.rg ?_
          refine TrL.op (ok_ldBS rfl (fun _ => rfl)) rfl rfl ?_
          refine TrL.op (ok_call (fun hp => ct_rOpen _ v) (.s rfl (fun _ => rfl) rfl <| .nil)) rfl rfl ?_
          refine TrL.op (ok_move rfl (fun _ => rfl)) rfl rfl ?_
          refine TrL.op (ok_call (fun hp => ct_rCheckChain _ _ v) (.a rfl (fun _ => rfl) <| .a rfl (fun _ => rfl) <| .nil)) rfl rfl ?_
          refine TrL.op (ok_assign rfl (fun _ => rfl)) rfl rfl ?_
          refine TrL.fin ?_
          exact End.cut (()) (by first | rfl | omega | (simp; done) | (simp; omega) | assumption) (Ent.mk (.i rfl (orE_r h8).symm <| .k rfl rfl <| .k rfl rfl <| .k rfl rfl <| .k rfl rfl <| .k rfl rfl <| .k rfl rfl <| .k rfl rfl <| .k rfl rfl <| .k rfl rfl <| .nil) (.k rfl <| .k rfl <| .nil) rfl)
        · intro h8
          replace h8 := of_decide_eq_false h8
          refine Tr.skip ?_
          exact End.cut (()) (by first | rfl | omega | (simp; done) | (simp; omega) | assumption) (Ent.mk (.i rfl (orE_l h8).symm <| .k rfl rfl <| .k rfl rfl <| .k rfl rfl <| .k rfl rfl <| .k rfl rfl <| .k rfl rfl <| .k rfl rfl <| .k rfl rfl <| .k rfl rfl <| .nil) (.k rfl <| .k rfl <| .nil) rfl)
      · intro _ hM
        refine Tr.norm (S' := [⟨13, true, _, _⟩, ⟨1, true, _, _⟩, ⟨2, true, _, _⟩, ⟨3, true, _, _⟩, ⟨7, true, _, _⟩, ⟨8, true, _, _⟩, ⟨9, true, _, _⟩, ⟨10, true, _, _⟩, ⟨11, true, _, _⟩, ⟨12, true, _, _⟩]) (M' := [⟨3, _, _⟩, ⟨10, _, _⟩]) rfl rfl ?_
        refine Tr.seq ?_
        refine Tr.seq ?_
        refine Tr.rg ?_
        refine TrL.op (ok_move rfl (fun _ => rfl)) rfl rfl ?_
        refine TrL.op (ok_neq rfl (fun _ => rfl) rfl (fun _ => rfl)) rfl rfl ?_
        refine TrL.fin ?_
        refine End.nxt ?_
        refine Tr.cnd rfl ?_ ?_
        · intro h10
          replace h10 := of_decide_eq_true h10
          have hE1 : orE (chkO o) (orE (chkC o.1.length c) (chkW (bs s))) = orE (chkO o) (chkC o.1.length c) := by rw [orE_assoc, orE_l h10]
          have hE : orE (chkO o) (orE (chkC o.1.length c) (chkW (bs s))) ≠ 0 := by (rw [hE1]; exact h10)
          refine Tr.seq ?_
          refine Tr.rg ?_
          have hz1 : (if orE (chkO o) (orE (chkC o.1.length c) (chkW (bs s))) = 0 then pO (bs s) o else ([], [])).1.length = 0 := by (rw [if_neg hE]; rfl)
          have hz2 : (if orE (chkO o) (orE (chkC o.1.length c) (chkW (bs s))) = 0 then pO (bs s) o else ([], [])).2.length = 0 := by (rw [if_neg hE]; rfl)
          have hz3 : (if orE (chkO o) (orE (chkC o.1.length c) (chkW (bs s))) = 0 then pC (bs s) o c else []).length = 0 := by (rw [if_neg hE]; rfl)
          refine TrL.op (ok_move rfl (fun _ => rfl)) rfl rfl ?_
          refine TrL.op (ok_move rfl (fun _ => rfl)) rfl rfl ?_
          refine TrL.op (ok_eql rfl (fun _ => rfl) rfl (fun _ => rfl)) rfl rfl ?_
          refine TrL.op (ok_move rfl (fun _ => rfl)) rfl rfl ?_
          refine TrL.gd rfl rfl rfl (ok_move rfl (fun _ => rfl)) rfl rfl ?_
          refine TrL.gd rfl rfl rfl (ok_move rfl (fun _ => rfl)) rfl rfl ?_
          refine TrL.gd rfl rfl rfl (ok_eql rfl id rfl id) rfl rfl ?_
          refine TrL.op (ok_and rfl (fun _ => rfl) rfl (fun hp h => gdT2 ((fun _ => rfl) hp) h)) rfl rfl ?_
          refine TrL.op (ok_move rfl (fun _ => rfl)) rfl rfl ?_
          refine TrL.gd rfl rfl rfl (ok_move rfl (fun _ => rfl)) rfl rfl ?_
          refine TrL.gd rfl rfl rfl (ok_eql rfl id rfl (fun _ => rfl)) rfl rfl ?_
          refine TrL.op (ok_and rfl (fun _ => rfl) rfl (fun hp h => gdT2 ((fun _ => rfl) hp) h)) rfl rfl ?_
          refine TrL.op (ok_move rfl (fun _ => rfl)) rfl rfl ?_
          refine TrL.gd rfl rfl rfl (ok_move rfl (fun _ => rfl)) rfl rfl ?_
          refine TrL.gd rfl rfl rfl (ok_eql rfl id rfl (fun _ => rfl)) rfl rfl ?_
          refine TrL.op (ok_and rfl (fun _ => rfl) rfl (fun hp h => gdT2 ((fun _ => rfl) hp) h)) rfl rfl ?_
          refine TrL.op (ok_move rfl (fun _ => rfl)) rfl rfl ?_
          refine TrL.gd rfl rfl rfl (ok_fldO rfl (fun _ => rfl)) rfl rfl ?_
          refine TrL.gd rfl rfl rfl (ok_ldB rfl id rfl) rfl rfl ?_
          refine TrL.gd rfl rfl rfl (ok_lenJ rfl id) rfl rfl ?_
          refine TrL.gd rfl rfl rfl (ok_fldO rfl (fun _ => rfl)) rfl rfl ?_
          refine TrL.gd rfl rfl rfl (ok_ldB rfl id rfl) rfl rfl ?_
          refine TrL.gd rfl rfl rfl (ok_lenJ rfl id) rfl rfl ?_
          refine TrL.gd rfl rfl rfl (ok_add rfl id rfl id (fun hp => by simp at hp; omega)) rfl rfl ?_
          refine TrL.gd rfl rfl rfl (ok_move rfl (fun _ => rfl)) rfl rfl ?_
          refine TrL.gd rfl rfl rfl (ok_lenJ rfl id) rfl rfl ?_
          refine TrL.gd rfl rfl rfl (ok_add rfl id rfl id (fun hp => by simp at hp; omega)) rfl rfl ?_
          refine TrL.gd rfl rfl rfl (ok_eql rfl id rfl (fun _ => rfl)) rfl rfl ?_
          refine TrL.op (ok_and rfl (fun _ => rfl) rfl (fun hp h => gdT2 ((fun _ => rfl) hp) h)) rfl rfl ?_
          refine TrL.op (ok_assign rfl (fun _ => rfl)) rfl rfl ?_
          refine TrL.fin ?_
          refine End.nxt ?_
          refine Tr.ret ?_
          refine Rts.thn ?_
          exact Rts.res1 (fn := Tryd.f3) rfl (.b rfl (by simp [hE1, h10]) <| .nil)
        · intro h10
          replace h10 := Classical.not_not.1 (of_decide_eq_false h10)
          have v : Valid o := valid_of (orE_zero.1 h10).1
          have hcl := chkC_len (orE_zero.1 h10).2
          have hE1 : orE (chkO o) (orE (chkC o.1.length c) (chkW (bs s))) = chkW (bs s) := by rw [orE_assoc, orE_r h10]
          refine Tr.skip ?_
          refine End.nxt ?_
          refine Tr.seq ?_
          refine Tr.rg ?_
          refine TrL.op (ok_ldBS rfl (fun _ => rfl)) rfl rfl ?_
          refine TrL.op (ok_call (fun hp => ct_rOpen _ v) (.s rfl (fun _ => rfl) rfl <| .nil)) rfl rfl ?_
          refine TrL.op (ok_move rfl (fun _ => rfl)) rfl rfl ?_
          refine TrL.op (ok_call (fun hp => ct_rHolonomy _ _ v (by assumption)) (.a rfl (fun _ => rfl) <| .a rfl (fun _ => rfl) <| .nil)) rfl rfl ?_
          refine TrL.op (ok_move rfl (fun _ => rfl)) rfl rfl ?_
          refine TrL.op (ok_ext rfl (fun _ => rfl) rfl) rfl rfl ?_
          refine TrL.op (ok_ext rfl (fun _ => rfl) rfl) rfl rfl ?_
          refine TrL.op (ok_assign rfl (fun _ => rfl)) rfl rfl ?_
          refine TrL.op (ok_assign rfl (fun _ => rfl)) rfl rfl ?_
          refine TrL.fin ?_
          refine End.nxt ?_
          refine Tr.seq ?_
          refine Tr.seq ?_
          refine Tr.rg ?_
          refine TrL.op (ok_move rfl (fun _ => rfl)) rfl rfl ?_
          refine TrL.op (ok_neq rfl (fun _ => rfl) rfl (fun _ => rfl)) rfl rfl ?_
          refine TrL.op (ok_move rfl (fun _ => rfl)) rfl rfl ?_
          refine TrL.gd rfl rfl rfl (ok_move rfl (fun _ => rfl)) rfl rfl ?_
          refine TrL.gd rfl rfl rfl (ok_move rfl (fun _ => rfl)) rfl rfl ?_
          refine TrL.gd rfl rfl rfl (ok_neq rfl id rfl id) rfl rfl ?_
          refine TrL.op (ok_or rfl (fun _ => rfl) rfl (fun hp h => gdF2 ((fun _ => rfl) hp) h)) rfl rfl ?_
          refine TrL.op (ok_move rfl (fun _ => rfl)) rfl rfl ?_
          refine TrL.gd rfl rfl rfl (ok_move rfl (fun _ => rfl)) rfl rfl ?_
          refine TrL.gd rfl rfl rfl (ok_move rfl (fun _ => rfl)) rfl rfl ?_
          refine TrL.gd rfl rfl rfl (ok_neq rfl id rfl id) rfl rfl ?_
          refine TrL.op (ok_or rfl (fun _ => rfl) rfl (fun hp h => gdF2 ((fun _ => rfl) hp) h)) rfl rfl ?_
          refine TrL.fin ?_
          refine End.nxt ?_
          refine Tr.cnd rfl ?_ ?_
          · intro h13
            try simp only [decide_eq_true_eq, Bool.or_eq_true, ne_eq] at h13
            simp [h10] at h13
          · intro h13
            try simp only [decide_eq_false_iff_not, Bool.or_eq_false_iff, ne_eq, Classical.not_not] at h13
            refine Tr.skip ?_
            refine End.nxt ?_
            refine Tr.seq ?_
            refine Tr.seq ?_
            refine Tr.rg ?_
            refine TrL.op (ok_move rfl (fun _ => rfl)) rfl rfl ?_
            refine TrL.op (ok_call (fun hp => ct_rCheckWord _) (.a rfl (fun _ => rfl) <| .nil)) rfl rfl ?_
            refine TrL.op (ok_assign rfl (fun _ => rfl)) rfl rfl ?_
            refine TrL.fin ?_
            refine End.nxt ?_
            refine Tr.seq ?_
            refine Tr.rg ?_
            refine TrL.op (ok_move rfl (fun _ => rfl)) rfl rfl ?_
            refine TrL.op (ok_neq rfl (fun _ => rfl) rfl (fun _ => rfl)) rfl rfl ?_
            refine TrL.fin ?_
            refine End.nxt ?_
            refine Tr.cnd rfl ?_ ?_
            · intro h16
              replace h16 := of_decide_eq_true h16
              have hE : orE (chkO o) (orE (chkC o.1.length c) (chkW (bs s))) ≠ 0 := by (rw [hE1]; exact h16)
              refine Tr.seq ?_
              refine Tr.rg ?_
              have hz1 : (if orE (chkO o) (orE (chkC o.1.length c) (chkW (bs s))) = 0 then pO (bs s) o else ([], [])).1.length = 0 := by (rw [if_neg hE]; rfl)
              have hz2 : (if orE (chkO o) (orE (chkC o.1.length c) (chkW (bs s))) = 0 then pO (bs s) o else ([], [])).2.length = 0 := by (rw [if_neg hE]; rfl)
              have hz3 : (if orE (chkO o) (orE (chkC o.1.length c) (chkW (bs s))) = 0 then pC (bs s) o c else []).length = 0 := by (rw [if_neg hE]; rfl)
              refine TrL.op (ok_move rfl (fun _ => rfl)) rfl rfl ?_
              refine TrL.op (ok_move rfl (fun _ => rfl)) rfl rfl ?_
              refine TrL.op (ok_eql rfl (fun _ => rfl) rfl (fun _ => rfl)) rfl rfl ?_
              refine TrL.op (ok_move rfl (fun _ => rfl)) rfl rfl ?_
              refine TrL.gd rfl rfl rfl (ok_fldO rfl (fun _ => rfl)) rfl rfl ?_
              refine TrL.gd rfl rfl rfl (ok_ldB rfl id rfl) rfl rfl ?_
              refine TrL.gd rfl rfl rfl (ok_lenJ rfl id) rfl rfl ?_
              refine TrL.gd rfl rfl rfl (ok_fldO rfl (fun _ => rfl)) rfl rfl ?_
              refine TrL.gd rfl rfl rfl (ok_ldB rfl id rfl) rfl rfl ?_
              refine TrL.gd rfl rfl rfl (ok_lenJ rfl id) rfl rfl ?_
              refine TrL.gd rfl rfl rfl (ok_add rfl id rfl id (fun hp => by simp at hp; omega)) rfl rfl ?_
              refine TrL.gd rfl rfl rfl (ok_move rfl (fun _ => rfl)) rfl rfl ?_
              refine TrL.gd rfl rfl rfl (ok_lenJ rfl id) rfl rfl ?_
              refine TrL.gd rfl rfl rfl (ok_add rfl id rfl id (fun hp => by simp at hp; omega)) rfl rfl ?_
              refine TrL.gd rfl rfl rfl (ok_eql rfl id rfl (fun _ => rfl)) rfl rfl ?_
              refine TrL.op (ok_and rfl (fun _ => rfl) rfl (fun hp h => gdT2 ((fun _ => rfl) hp) h)) rfl rfl ?_
              refine TrL.op (ok_assign rfl (fun _ => rfl)) rfl rfl ?_
              refine TrL.fin ?_
              refine End.nxt ?_
              refine Tr.ret ?_
              refine Rts.thn ?_
              exact Rts.res1 (fn := Tryd.f3) rfl (.b rfl (by simp [hE1, h16]) <| .nil)
            · intro h16
              replace h16 := Classical.not_not.1 (of_decide_eq_false h16)
              have hw := chkW_zero h16
              refine Tr.skip ?_
              refine End.nxt ?_
              refine Tr.seq ?_
              refine Tr.rg ?_
              refine TrL.op (ok_ldBS rfl (fun _ => rfl)) rfl rfl ?_
              refine TrL.op (ok_move rfl (fun _ => rfl)) rfl rfl ?_
              refine TrL.op (ok_move rfl (fun _ => rfl)) rfl rfl ?_
              refine TrL.op (ok_call (fun hp => ct_rPush _ _ _ v hw.2 hw.1 hcl) (.s rfl (fun _ => rfl) rfl <| .a rfl (fun _ => rfl) <| .a rfl (fun _ => rfl) <| .nil)) rfl rfl ?_
              refine TrL.op (ok_move rfl (fun _ => rfl)) rfl rfl ?_
              refine TrL.op (ok_ext rfl (fun _ => rfl) rfl) rfl rfl ?_
              refine TrL.op (ok_ext rfl (fun _ => rfl) rfl) rfl rfl ?_
              refine TrL.new (ok_alloc 17) rfl rfl rfl rfl ?_
              refine TrL.stB rfl rfl rfl rfl ?_
              refine TrL.op (ok_assign rfl (fun _ => rfl)) rfl rfl ?_
              refine TrL.fin ?_
              refine End.nxt ?_
              refine Tr.seq ?_
              refine Tr.rg ?_
              refine TrL.op (ok_move rfl (fun _ => rfl)) rfl rfl ?_
              refine TrL.op (ok_eql rfl (fun _ => rfl) rfl (fun _ => rfl)) rfl rfl ?_
              refine TrL.op (ok_move rfl (fun _ => rfl)) rfl rfl ?_
              refine TrL.gd rfl rfl rfl (ok_ldBS rfl (fun _ => rfl)) rfl rfl ?_
              refine TrL.gd rfl rfl rfl (ok_ldBS rfl (fun _ => rfl)) rfl rfl ?_
              refine TrL.gd rfl rfl rfl (ok_call (fun hp => ct_SameO _ _) (.s rfl id rfl <| .s rfl id rfl <| .nil)) rfl rfl ?_
              refine TrL.op (ok_and rfl (fun _ => rfl) rfl (fun hp h => gdT2 ((fun _ => rfl) hp) h)) rfl rfl ?_
              refine TrL.op (ok_move rfl (fun _ => rfl)) rfl rfl ?_
              refine TrL.gd rfl rfl rfl (ok_move rfl (fun _ => rfl)) rfl rfl ?_
              refine TrL.gd rfl rfl rfl (ok_move rfl (fun _ => rfl)) rfl rfl ?_
              refine TrL.gd rfl rfl rfl (ok_call (fun hp => ct_Ints _ _) (.a rfl id <| .a rfl id <| .nil)) rfl rfl ?_
              refine TrL.op (ok_and rfl (fun _ => rfl) rfl (fun hp h => gdT2 ((fun _ => rfl) hp) h)) rfl rfl ?_
              refine TrL.op (ok_assign rfl (fun _ => rfl)) rfl rfl ?_
              refine TrL.fin ?_
              refine End.nxt ?_
              refine Tr.ret ?_
              exact Rts.res1 (fn := Tryd.f3) rfl (.b rfl (by have hE := hE1.trans h16; simp [hE]) <| .nil)

end Go.Fl

/- Cycles by test functions; the form by any potential at the corners; what a shear and a quarter turn do. Plain Lean. -/
namespace Go.Fl
open Go Go.RowKit
section
variable {o : Ori} (v : Valid o)
include v
theorem vert_comm {x : Int} (hx : Sq o.1.length x) : nth (vertL o) (ap (comm o) x).toNat = nth (vertL o) x.toNat :=
  ((vert_eq v hx (v.pC.aps hx)).2 (v.pC.orb_ap hx (v.pC.orb_self hx))).symm
/-- A sum over all squares of a function that is the same on all squares of a corner. -/
theorem sum_inv {f g : Int → Int} (hg : ∀ x, Sq o.1.length x → g (ap (comm o) x) = g x) (hf : ∀ m, m < (vtx o).length → sumL f (nth (vtx o) m) = 0) : S o.1.length (fun x => g x * f x) = 0 := by
  rw [← sum_vtx v]
  refine (sumTo_congr fun m hm => ?_).trans sumTo_zero
  have hc : ∀ i, i < (nth (vtx o) m).length → g (nth (nth (vtx o) m) i) = g (nth (nth (vtx o) m) 0) := by
    intro i
    induction i with
    | zero => exact fun _ => rfl
    | succ i ih =>
      intro hi
      have h1 := T_at v hm (i := i) (by omega)
      have h2 : nxt (nth (vtx o) m) i = nth (nth (vtx o) m) (i + 1) := by unfold nxt; rw [Nat.mod_eq_of_lt hi]
      rw [← h2, ← h1, hg _ (vtx_sq v hm (by omega)), ih (by omega)]
  have h3 : sumL (fun x => g x * f x) (nth (vtx o) m) = g (nth (nth (vtx o) m) 0) * sumL f (nth (vtx o) m) := by
    rw [← sumTo_list, ← sumTo_list, ← sumTo_mul]
    exact sumTo_congr fun i hi => by rw [hc i hi]
  rw [h3, hf m hm, Int.mul_zero]
theorem rbS_S {c : List Int} {m : Nat} (hm : m < (vtx o).length) : rbS o c o.1.length m = S o.1.length (fun x => (if nth (vertL o) x.toNat = m then 1 else 0) * exc o c x) := by
  rw [rbS_exc v hm, ← sum_vtx v]
  have key : ∀ q, q < (vtx o).length → sumL (fun x => (if nth (vertL o) x.toNat = m then 1 else 0) * exc o c x) (nth (vtx o) q) = if (q : Int) = m then sumL (exc o c) (nth (vtx o) m) else 0 := by
    intro q hq
    rw [← sumTo_list]
    by_cases e : q = m
    · subst e
      rw [if_pos rfl, ← sumTo_list]
      refine sumTo_congr fun i hi => ?_
      rw [if_pos (vert_of v hq (nth_mem hi)), Int.one_mul]
    · rw [if_neg (by omega)]
      refine (sumTo_congr fun i hi => ?_).trans sumTo_zero
      have := vert_of v hq (nth_mem hi)
      rw [if_neg (by omega), Int.zero_mul]
  rw [sumTo_congr key]
  exact (S_one (n := (vtx o).length) (y := (m : Int)) (Sq.nat hm) (f := fun _ => sumL (exc o c) (nth (vtx o) m))).symm
/-- A chain is closed just if every function on the corners sums to 0 with its excess. -/
theorem cyc_iff {c : List Int} : (∀ m : Nat, m < (vtx o).length → rbS o c o.1.length m = 0) ↔ ∀ g : Int → Int, (∀ x, Sq o.1.length x → g (ap (comm o) x) = g x) → S o.1.length (fun x => g x * exc o c x) = 0 := by
  constructor
  · exact fun h g hg => sum_inv v hg fun m hm => by rw [← rbS_exc v hm]; exact h m hm
  · intro h m hm
    rw [rbS_S v hm]
    exact h _ fun x hx => by rw [vert_comm v hx]
def fHZ (o : Ori) (Z : Int → Int) (b : List Int) (x : Int) : Int := Z x - Z (ap o.1 x) - aH b (ap (invL o.1) x) + aH b x + aV o.1.length b x
def fVZ (o : Ori) (Z : Int → Int) (b : List Int) (x : Int) : Int := Z x - Z (ap o.2 x) + exc o b (ap o.2 x) - aH b (ap (invL o.1) x)
/-- The form, by any function that steps at the corners by the excess. -/
theorem isI_Z {a b : List Int} (ha : Cyc o a) (hb : Cyc o b) {Z : Int → Int} (hZ : ∀ x, Sq o.1.length x → Z (ap (comm o) x) = Z x + exc o b (ap (comm o) x)) : isI o a b = S o.1.length (fun x => aH a x * fHZ o Z b x + aV o.1.length a x * fVZ o Z b x) := by
  have hD := (cyc_iff v (c := a)).1 ha.bnd (fun x => Z x - Zf o b x) fun x hx => by
    rw [hZ x hx, Zf_step v hb hx]; omega
  rw [isI_f v hb]
  have hR := S_re v.pR (f := fun x => (Z x - Zf o b x) * aH a (ap (invL o.1) x))
  have hU := S_re v.pU (f := fun x => (Z x - Zf o b x) * aV o.1.length a (ap (invL o.2) x))
  have e1 : S o.1.length (fun x => (Z x - Zf o b x) * exc o a x) = S o.1.length (fun x => (Z (ap o.1 x) - Zf o b (ap o.1 x)) * aH a x) + S o.1.length (fun x => (Z (ap o.2 x) - Zf o b (ap o.2 x)) * aV o.1.length a x) - S o.1.length (fun x => (Z x - Zf o b x) * (aH a x + aV o.1.length a x)) := by
    have hR' : S o.1.length (fun x => (Z (ap o.1 x) - Zf o b (ap o.1 x)) * aH a x) = S o.1.length (fun x => (Z x - Zf o b x) * aH a (ap (invL o.1) x)) := by
      rw [← hR]; exact S_congr fun x hx => by rw [v.pR.inv_ap hx]
    have hU' : S o.1.length (fun x => (Z (ap o.2 x) - Zf o b (ap o.2 x)) * aV o.1.length a x) = S o.1.length (fun x => (Z x - Zf o b x) * aV o.1.length a (ap (invL o.2) x)) := by
      rw [← hU]; exact S_congr fun x hx => by rw [v.pU.inv_ap hx]
    rw [hR', hU', ← S_add, ← S_sub]
    refine S_congr fun x _ => ?_
    unfold exc; grind
  rw [hD] at e1
  have e2 : S o.1.length (fun x => aH a x * fHZ o Z b x + aV o.1.length a x * fVZ o Z b x) = S o.1.length (fun x => aH a x * fH o b x + aV o.1.length a x * fV o b x) - (S o.1.length (fun x => (Z (ap o.1 x) - Zf o b (ap o.1 x)) * aH a x) + S o.1.length (fun x => (Z (ap o.2 x) - Zf o b (ap o.2 x)) * aV o.1.length a x) - S o.1.length (fun x => (Z x - Zf o b x) * (aH a x + aV o.1.length a x))) := by
    rw [← S_add, ← S_sub, ← S_sub]
    refine S_congr fun x _ => ?_
    unfold fHZ fVZ fH fV; grind
  rw [e2, ← e1, Int.sub_zero]
end
end Go.Fl

/- What a shear and a quarter turn do with cycles, the form, potentials and holonomies. Plain Lean. -/
namespace Go.Fl
open Go Go.RowKit
abbrev aR (o : Ori) (x : Int) : Int := ap o.1 x
abbrev aL (o : Ori) (x : Int) : Int := ap (invL o.1) x
abbrev aU (o : Ori) (x : Int) : Int := ap o.2 x
abbrev aD (o : Ori) (x : Int) : Int := ap (invL o.2) x
section
variable {o : Ori} (v : Valid o)
include v
theorem sR {x : Int} (h : Sq o.1.length x) : Sq o.1.length (aR o x) := v.pR.aps h
theorem sL {x : Int} (h : Sq o.1.length x) : Sq o.1.length (aL o x) := v.pR.inv.aps h
theorem sU {x : Int} (h : Sq o.1.length x) : Sq o.1.length (aU o x) := v.pU.aps h
theorem sD {x : Int} (h : Sq o.1.length x) : Sq o.1.length (aD o x) := v.pU.inv.aps h
theorem RL {x : Int} (h : Sq o.1.length x) : aR o (aL o x) = x := v.pR.ap_inv h
theorem LR {x : Int} (h : Sq o.1.length x) : aL o (aR o x) = x := v.pR.inv_ap h
theorem UD {x : Int} (h : Sq o.1.length x) : aU o (aD o x) = x := v.pU.ap_inv h
theorem DU {x : Int} (h : Sq o.1.length x) : aD o (aU o x) = x := v.pU.inv_ap h
theorem commK {x : Int} (h : Sq o.1.length x) : ap (comm o) x = aU o (aR o (aD o (aL o x))) := T_eq v h
theorem S_L {f : Int → Int} : S o.1.length (fun x => f (aL o x)) = S o.1.length f := S_re v.pR.inv
theorem S_D {f : Int → Int} : S o.1.length (fun x => f (aD o x)) = S o.1.length f := S_re v.pU.inv
theorem S_R {f : Int → Int} : S o.1.length (fun x => f (aR o x)) = S o.1.length f := S_re v.pR
theorem S_U {f : Int → Int} : S o.1.length (fun x => f (aU o x)) = S o.1.length f := S_re v.pU
theorem S_K {f : Int → Int} : S o.1.length (fun x => f (ap (comm o) x)) = S o.1.length f := S_re v.pC
end
/-- o', c' is what the shear T makes of o, c. -/
structure RelT (o o' : Ori) : Prop where
  n : o'.1.length = o.1.length
  r : ∀ x, Sq o.1.length x → aR o' x = aR o x
  l : ∀ x, Sq o.1.length x → aL o' x = aL o x
  u : ∀ x, Sq o.1.length x → aU o' x = aL o (aU o x)
  d : ∀ x, Sq o.1.length x → aD o' x = aD o (aR o x)
structure ChT (o o' : Ori) (c c' : List Int) : Prop where
  h : ∀ x, Sq o.1.length x → aH c' x = aH c (aR o x) + aV o.1.length c (aR o (aD o (aR o x)))
  v : ∀ x, Sq o.1.length x → aV o'.1.length c' x = aV o.1.length c (aR o x)
section
variable {o o' : Ori} (v : Valid o) (v' : Valid o') (t : RelT o o')
include v v' t
theorem RelT.k {x : Int} (h : Sq o.1.length x) : ap (comm o') (aL o x) = aL o (ap (comm o) x) := by
  have hl := sL v h
  rw [commK v' (by rw [t.n]; exact hl), commK v h]
  rw [t.l _ hl, t.d _ (sL v hl), RL v hl, t.r _ (sD v hl), t.u _ (sR v (sD v hl))]
end
theorem ChT.exc {o o' : Ori} (v : Valid o) (_v' : Valid o') (t : RelT o o') {c c' : List Int} (q : ChT o o' c c') {x : Int} (h : Sq o.1.length x) : exc o' c' (aL o x) = exc o c x + aV o.1.length c (aD o (ap (comm o) x)) - aV o.1.length c (aD o x) := by
  have hl := sL v h
  have hd := sD v h
  have e : aD o (ap (comm o) x) = aR o (aD o (aL o x)) := by rw [commK v h, DU v (sR v (sD v hl))]
  unfold Fl.exc
  rw [show ap (invL o'.1) (aL o x) = aL o (aL o x) from t.l _ hl, show ap (invL o'.2) (aL o x) = aD o x from (t.d _ hl).trans (by rw [RL v h])]
  rw [q.h _ (sL v hl), q.h _ hl, q.v _ hd, q.v _ hl, RL v hl, RL v h, e]
  show _ = aH c (aL o x) + aV o.1.length c (aD o x) - aH c x - aV o.1.length c x + _ - _
  omega
section
variable {o o' : Ori} (v : Valid o) (v' : Valid o') (t : RelT o o')
include v v' t
theorem ChT.sum {c c' : List Int} (q : ChT o o' c c') {g : Int → Int} (hg : ∀ x, Sq o.1.length x → g (aL o (ap (comm o) x)) = g (aL o x)) : S o'.1.length (fun x => g x * Fl.exc o' c' x) = S o.1.length (fun x => g (aL o x) * Fl.exc o c x) := by
  rw [t.n, ← S_L v (f := fun x => g x * Fl.exc o' c' x)]
  have hk := S_K v (f := fun x => g (aL o x) * aV o.1.length c (aD o x))
  have e : S o.1.length (fun x => g (aL o x) * Fl.exc o' c' (aL o x)) = S o.1.length (fun x => g (aL o x) * Fl.exc o c x) + S o.1.length (fun x => g (aL o (ap (comm o) x)) * aV o.1.length c (aD o (ap (comm o) x))) - S o.1.length (fun x => g (aL o x) * aV o.1.length c (aD o x)) := by
    rw [← S_add, ← S_sub]
    refine S_congr fun x hx => ?_
    rw [q.exc v v' t hx, hg x hx]; grind
  rw [e, hk]; omega
theorem ChT.bnd {c c' : List Int} (q : ChT o o' c c') : (∀ m : Nat, m < (vtx o).length → rbS o c o.1.length m = 0) ↔ ∀ m : Nat, m < (vtx o').length → rbS o' c' o'.1.length m = 0 := by
  rw [cyc_iff v, cyc_iff v']
  constructor
  · intro h g hg
    have hg2 : ∀ x, Sq o.1.length x → g (aL o (ap (comm o) x)) = g (aL o x) := fun x hx => by rw [← t.k v v' hx]; exact hg _ (by rw [t.n]; exact sL v hx)
    rw [q.sum v v' t hg2]
    exact h _ hg2
  · intro h g hg
    have := h (fun x => g (aR o x)) fun x hx => by
      rw [t.n] at hx
      have hr := sR v hx
      have e : ap (comm o') x = aL o (ap (comm o) (aR o x)) := by rw [← t.k v v' hr, LR v hx]
      rw [e, RL v (v.pC.aps hr)]
      exact hg _ hr
    rw [q.sum v v' t fun x hx => by rw [RL v (v.pC.aps hx), RL v hx]; exact hg x hx] at this
    rw [← this]
    exact S_congr fun x hx => by rw [RL v hx]
theorem ChT.isI {a a' b b' : List Int} (qa : ChT o o' a a') (qb : ChT o o' b b') (_ha : Cyc o a) (hb : Cyc o b) (ha' : Cyc o' a') (hb' : Cyc o' b') : isI o' a' b' = isI o a b := by
  let Z : Int → Int := fun y => Zf o b (aR o y) + aV o.1.length b (aD o (ap (comm o) (aR o y)))
  have hZ : ∀ x, Sq o.1.length x → Z (aL o x) = Zf o b x + aV o.1.length b (aD o (ap (comm o) x)) := fun x hx => by show Zf o b (aR o (aL o x)) + _ = _; rw [RL v hx]
  have hstep : ∀ y, Sq o'.1.length y → Z (ap (comm o') y) = Z y + Fl.exc o' b' (ap (comm o') y) := fun y hy => by
    rw [t.n] at hy
    have hx := sR v hy
    have hk := v.pC.aps hx
    have e := t.k v v' hx
    rw [LR v hy] at e
    have e2 := hZ _ hx
    rw [LR v hy] at e2
    rw [e, hZ _ hk, qb.exc v v' t hk, e2, Zf_step v hb hx]; omega
  have hfH : ∀ x, Sq o.1.length x → fHZ o' Z b' (aL o x) = fH o b x := fun x hx => by
    have hl := sL v hx
    have e : Z x = Zf o b (aR o x) + aV o.1.length b (aR o (aD o x)) := by
      show Zf o b (aR o x) + aV o.1.length b (aD o (ap (comm o) (aR o x))) = _
      rw [commK v (sR v hx), LR v hx, DU v (sR v (sD v hx))]
    have e2 : aD o (ap (comm o) x) = aR o (aD o (aL o x)) := by rw [commK v hx, DU v (sR v (sD v hl))]
    unfold fHZ fH
    rw [show ap o'.1 (aL o x) = x from (t.r _ hl).trans (RL v hx), show ap (invL o'.1) (aL o x) = aL o (aL o x) from t.l _ hl, hZ x hx, e, e2, qb.h _ (sL v hl), qb.h _ hl, qb.v _ hl, RL v hl, RL v hx]
    show _ = Zf o b x - Zf o b (aR o x) - aH b (aL o x) + aH b x + aV o.1.length b x
    omega
  have hfV : ∀ x, Sq o.1.length x → fVZ o' Z b' (aL o x) + fH o b (aU o (aL o x)) = fV o b x := fun x hx => by
    have hl := sL v hx
    have hw := sU v hl
    have e2 : aD o (ap (comm o) x) = aR o (aD o (aL o x)) := by rw [commK v hx, DU v (sR v (sD v hl))]
    have e3 : ap (comm o) (aR o (aU o (aL o x))) = aU o x := by rw [commK v (sR v hw), LR v hw, DU v hl, RL v hx]
    have e4 := Zf_step v hb (sR v hw)
    rw [e3] at e4
    unfold fVZ fH fV
    rw [show ap o'.2 (aL o x) = aL o (aU o (aL o x)) from t.u _ hl, hZ x hx, hZ _ hw, qb.exc v v' t hw, show ap (invL o'.1) (aL o x) = aL o (aL o x) from t.l _ hl, qb.h _ (sL v hl), RL v hl, e2, DU v hl]
    show _ = Zf o b x - Zf o b (aU o x) + Fl.exc o b (aU o x) - aH b (aL o x)
    have e5 : Fl.exc o b (aU o (aL o x)) = aH b (aL o (aU o (aL o x))) + aV o.1.length b (aL o x) - aH b (aU o (aL o x)) - aV o.1.length b (aU o (aL o x)) := by
      show aH b (aL o (aU o (aL o x))) + aV o.1.length b (aD o (aU o (aL o x))) - _ - _ = _
      rw [DU v hl]
    rw [e4, e5]
    show _ - _ + _ - _ + (Zf o b (aU o (aL o x)) - Zf o b (aR o (aU o (aL o x))) - aH b (aL o (aU o (aL o x))) + _ + _) = _
    omega
  rw [isI_Z v' ha' hb' hstep, isI_f v hb, t.n, ← S_L v (f := fun x => aH a' x * fHZ o' Z b' x + aV o.1.length a' x * fVZ o' Z b' x)]
  have hs1 := S_L v (f := fun x => aV o.1.length a (aR o (aD o (aU o x))) * fH o b (aU o x))
  have hs2 := S_U v (f := fun x => aV o.1.length a (aR o (aD o x)) * fH o b x)
  have e1 : S o.1.length (fun x => aH a' (aL o x) * fHZ o' Z b' (aL o x) + aV o.1.length a' (aL o x) * fVZ o' Z b' (aL o x)) = S o.1.length (fun x => aH a x * fH o b x + aV o.1.length a x * fVZ o' Z b' (aL o x)) + S o.1.length (fun x => aV o.1.length a (aR o (aD o x)) * fH o b x) := by
    rw [← S_add]
    refine S_congr fun x hx => ?_
    have hv := qa.v _ (sL v hx)
    rw [t.n] at hv
    rw [hfH x hx, qa.h _ (sL v hx), hv, RL v hx]; grind
  rw [e1, ← hs2, ← hs1, ← S_add]
  refine S_congr fun x hx => ?_
  rw [DU v (sL v hx), RL v hx, ← hfV x hx]; grind
end
/-- o', c' is what the quarter turn S makes of o, c. -/
structure RelS (o o' : Ori) : Prop where
  n : o'.1.length = o.1.length
  r : ∀ x, Sq o.1.length x → aR o' x = aD o x
  l : ∀ x, Sq o.1.length x → aL o' x = aU o x
  u : ∀ x, Sq o.1.length x → aU o' x = aR o x
  d : ∀ x, Sq o.1.length x → aD o' x = aL o x
structure ChS (o o' : Ori) (c c' : List Int) : Prop where
  h : ∀ x, Sq o.1.length x → aH c' x = -aV o.1.length c x
  v : ∀ x, Sq o.1.length x → aV o'.1.length c' x = aH c (aU o x)
theorem ChS.exc {o o' : Ori} (v : Valid o) (_v' : Valid o') (t : RelS o o') {c c' : List Int} (q : ChS o o' c c') {x : Int} (h : Sq o.1.length x) : exc o' c' (aD o x) = exc o c x + aH c (aU o (aL o (aD o x))) - aH c (aL o x) := by
  have hd := sD v h
  unfold Fl.exc
  rw [show ap (invL o'.1) (aD o x) = x from (t.l _ hd).trans (UD v h), show ap (invL o'.2) (aD o x) = aL o (aD o x) from t.d _ hd]
  rw [q.h _ h, q.v _ (sL v hd), q.h _ hd, q.v _ hd, UD v h]
  show _ = aH c (aL o x) + aV o.1.length c (aD o x) - aH c x - aV o.1.length c x + _ - _
  omega
section
variable {o o' : Ori} (v : Valid o) (v' : Valid o') (t : RelS o o')
include v v' t
theorem RelS.k {x : Int} (h : Sq o.1.length x) : ap (comm o') (aD o x) = aD o (ap (comm o) x) := by
  have hd := sD v h
  have hl := sL v h
  rw [commK v' (by rw [t.n]; exact hd), commK v h, t.l _ hd, UD v h, t.d _ h, t.r _ hl, t.u _ (sD v hl), DU v (sR v (sD v hl))]
theorem ChS.sum {c c' : List Int} (q : ChS o o' c c') {g : Int → Int} (hg : ∀ x, Sq o.1.length x → g (aD o (ap (comm o) x)) = g (aD o x)) : S o'.1.length (fun x => g x * Fl.exc o' c' x) = S o.1.length (fun x => g (aD o x) * Fl.exc o c x) := by
  rw [t.n, ← S_D v (f := fun x => g x * Fl.exc o' c' x)]
  have hk := S_K v (f := fun x => g (aD o x) * aH c (aU o (aL o (aD o x))))
  have e : S o.1.length (fun x => g (aD o x) * Fl.exc o' c' (aD o x)) = S o.1.length (fun x => g (aD o x) * Fl.exc o c x) + S o.1.length (fun x => g (aD o x) * aH c (aU o (aL o (aD o x)))) - S o.1.length (fun x => g (aD o (ap (comm o) x)) * aH c (aU o (aL o (aD o (ap (comm o) x))))) := by
    rw [← S_add, ← S_sub]
    refine S_congr fun x hx => ?_
    have hl := sL v hx
    rw [q.exc v v' t hx, hg x hx, commK v hx, DU v (sR v (sD v hl)), LR v (sD v hl), UD v hl]; grind
  rw [e, hk]; omega
theorem ChS.bnd {c c' : List Int} (q : ChS o o' c c') : (∀ m : Nat, m < (vtx o).length → rbS o c o.1.length m = 0) ↔ ∀ m : Nat, m < (vtx o').length → rbS o' c' o'.1.length m = 0 := by
  rw [cyc_iff v, cyc_iff v']
  constructor
  · intro h g hg
    have hg2 : ∀ x, Sq o.1.length x → g (aD o (ap (comm o) x)) = g (aD o x) := fun x hx => by rw [← t.k v v' hx]; exact hg _ (by rw [t.n]; exact sD v hx)
    rw [q.sum v v' t hg2]
    exact h _ hg2
  · intro h g hg
    have := h (fun x => g (aU o x)) fun x hx => by
      rw [t.n] at hx
      have hr := sU v hx
      have e : ap (comm o') x = aD o (ap (comm o) (aU o x)) := by rw [← t.k v v' hr, DU v hx]
      rw [e, UD v (v.pC.aps hr)]
      exact hg _ hr
    rw [q.sum v v' t fun x hx => by rw [UD v (v.pC.aps hx), UD v hx]; exact hg x hx] at this
    rw [← this]
    exact S_congr fun x hx => by rw [UD v hx]
theorem ChS.isI {a a' b b' : List Int} (qa : ChS o o' a a') (qb : ChS o o' b b') (hb : Cyc o b) (ha' : Cyc o' a') (hb' : Cyc o' b') : isI o' a' b' = isI o a b := by
  let Z : Int → Int := fun y => Zf o b (aU o y) - aH b (aL o (aU o y))
  have hZ : ∀ x, Sq o.1.length x → Z (aD o x) = Zf o b x - aH b (aL o x) := fun x hx => by show Zf o b (aU o (aD o x)) - aH b (aL o (aU o (aD o x))) = _; rw [UD v hx]
  have hstep : ∀ y, Sq o'.1.length y → Z (ap (comm o') y) = Z y + Fl.exc o' b' (ap (comm o') y) := fun y hy => by
    rw [t.n] at hy
    have hx := sU v hy
    have hl := sL v hx
    have hk := v.pC.aps hx
    have e := t.k v v' hx
    rw [DU v hy] at e
    have e2 := hZ _ hx
    rw [DU v hy] at e2
    have e3 : aU o (aL o (aD o (ap (comm o) (aU o y)))) = aL o (aU o y) := by rw [commK v hx, DU v (sR v (sD v hl)), LR v (sD v hl), UD v hl]
    rw [e, hZ _ hk, qb.exc v v' t hk, e2, Zf_step v hb hx, e3]; omega
  have hfH : ∀ y, Sq o.1.length y → fHZ o' Z b' y = -fV o b y := fun y hy => by
    have hu := sU v hy
    unfold fHZ fV
    have hv := qb.v _ hy
    rw [show ap o'.1 y = aD o y from t.r _ hy, show ap (invL o'.1) y = aU o y from t.l _ hy, hZ y hy, qb.h _ hu, qb.h _ hy, hv]
    have e5 : Fl.exc o b (ap o.2 y) = aH b (aL o (aU o y)) + aV o.1.length b y - aH b (aU o y) - aV o.1.length b (aU o y) := by
      show aH b (aL o (aU o y)) + aV o.1.length b (aD o (aU o y)) - _ - _ = _
      rw [DU v hy]
    rw [e5]
    show Zf o b (aU o y) - aH b (aL o (aU o y)) - _ - _ + _ + _ = -(Zf o b y - Zf o b (aU o y) + _ - aH b (aL o y))
    omega
  have hfV : ∀ x, Sq o.1.length x → fVZ o' Z b' (aD o x) = fH o b x := fun x hx => by
    have hd := sD v hx
    have hr := sR v hd
    have hw := sU v hr
    have e3 : ap (comm o) (aR o x) = aU o (aR o (aD o x)) := by rw [commK v (sR v hx), LR v hx]
    have e4 := Zf_step v hb (sR v hx)
    rw [e3] at e4
    have e6 := qb.exc v v' t hw
    rw [DU v hr, LR v hd, UD v hx] at e6
    have e7 := hZ _ hw
    rw [DU v hr] at e7
    unfold fVZ fH
    rw [show ap o'.2 (aD o x) = aR o (aD o x) from t.u _ hd, show ap (invL o'.1) (aD o x) = x from (t.l _ hd).trans (UD v hx), hZ x hx, e7, e6, qb.h _ hx, e4]
    show _ = Zf o b x - Zf o b (aR o x) - aH b (aL o x) + aH b x + aV o.1.length b x
    omega
  rw [isI_Z v' ha' hb' hstep, isI_f v hb, t.n]
  have hs := S_D v (f := fun x => aV o.1.length a' x * fVZ o' Z b' x)
  rw [S_add, ← hs, ← S_add]
  refine S_congr fun x hx => ?_
  have hv := qa.v _ (sD v hx)
  rw [t.n] at hv
  rw [hfH x hx, hfV x hx, qa.h x hx, hv, UD v hx]; grind
end
end Go.Fl

/- What the letters do with chains, exactly; potentials and holonomies under shears and quarter turns. Plain Lean. -/
namespace Go.Fl
open Go Go.RowKit
theorem S_at {n : Nat} {p : Int → Int} {y z : Int} (hz : Sq n z) (h : ∀ x, Sq n x → (y = p x ↔ x = z)) {f : Int → Int} : S n (fun x => if y = p x then f x else 0) = f z := by
  rw [← S_one hz (f := f)]
  refine S_congr fun x hx => ?_
  by_cases e : x = z
  · rw [if_pos e, if_pos ((h x hx).2 e)]
  · rw [if_neg e, if_neg (fun h2 => e ((h x hx).1 h2))]
theorem S_none {n : Nat} {p : Int → Int} {y : Int} (h : ∀ x, Sq n x → y ≠ p x) {f : Int → Int} : S n (fun x => if y = p x then f x else 0) = 0 :=
  (S_congr fun x hx => if_neg (h x hx)).trans S_zero
theorem S_triv {n : Nat} {p : Int → Int} {y : Int} {f : Int → Int} : S n (fun x => if y = p x then 0 * f x else 0) = 0 :=
  (S_congr fun x _ => (by rw [Int.zero_mul]; split <;> rfl)).trans S_zero
theorem letT_S {x : Int} {o : Ori} {c : List Int} {j : Nat} : letT x o c o.1.length j = S o.1.length (fun i => if (j : Int) = bE x o i then bS x * aH c i else 0) + S o.1.length (fun i => if (j : Int) = lE x o i then lS x * aV o.1.length c i else 0) + S o.1.length (fun i => if (j : Int) = lF x o i then lT x * aV o.1.length c i else 0) := by
  rw [← S_add, ← S_add]
  exact sumTo_congr fun i hi => by simp only [aH, aV, Int.toNat_natCast]
/-- The numbers of a chain are not great. -/
def Bd (c : List Int) (B : Int) : Prop := ∀ i, -B ≤ nth c i ∧ nth c i ≤ B
theorem letC_aH {x : Int} {o : Ori} {c : List Int} {y : Int} (hy : Sq o.1.length y) : aH (letC x o c) y = W (letT x o c o.1.length y.toNat) := by
  have h1 := hy.1; have h2 := hy.2
  unfold aH letC letK; rw [nth_tab (by omega)]
theorem letC_aV {x : Int} {o : Ori} {c : List Int} {y : Int} (hy : Sq o.1.length y) : aV o.1.length (letC x o c) y = W (letT x o c o.1.length ((o.1.length : Int) + y).toNat) := by
  have h1 := hy.1; have h2 := hy.2
  unfold aV letC letK; rw [nth_tab (by omega)]
section
variable {o : Ori} (v : Valid o)
include v
theorem letT_T {c : List Int} {y : Int} (hy : Sq o.1.length y) : letT 84 o c o.1.length y.toNat = aH c (aR o y) + aV o.1.length c (aR o (aD o (aR o y))) ∧ letT 84 o c o.1.length ((o.1.length : Int) + y).toNat = aV o.1.length c (aR o y) := by
  have h1 := hy.1; have h2 := hy.2
  have hr := sR v hy
  have hz := sR v (sD v hr)
  have e1 : ∀ x, Sq o.1.length x → (y = aL o x ↔ x = aR o y) := fun x hx => ⟨fun h => by rw [h, RL v hx], fun h => by rw [h, LR v hy]⟩
  have e2 : ∀ x, Sq o.1.length x → (y = aL o (aU o (aL o x)) ↔ x = aR o (aD o (aR o y))) := fun x hx => ⟨fun h => by rw [h, RL v (sU v (sL v hx)), DU v (sL v hx), RL v hx], fun h => by rw [h, LR v (sD v hr), UD v hr, LR v hy]⟩
  rw [letT_S, letT_S]
  simp only [bE, bS, lE, lS, lF, lT, if_true, Int.one_mul]
  rw [Int.toNat_of_nonneg h1, Int.toNat_of_nonneg (by omega)]
  have a1 := S_at (n := o.1.length) (p := aL o) hr e1 (f := aH c)
  have a2 := S_at (n := o.1.length) (p := fun x => aL o (aU o (aL o x))) hz e2 (f := aV o.1.length c)
  have a3 := S_none (n := o.1.length) (p := fun x => (o.1.length : Int) + aL o x) (y := y) (fun x hx => by have := (sL v hx).1; omega) (f := aV o.1.length c)
  have a4 := S_none (n := o.1.length) (p := aL o) (y := (o.1.length : Int) + y) (fun x hx => by have := (sL v hx).2; omega) (f := aH c)
  have a5 := S_at (n := o.1.length) (p := fun x => (o.1.length : Int) + aL o x) (y := (o.1.length : Int) + y) hr (fun x hx => by rw [← e1 x hx]; omega) (f := aV o.1.length c)
  have a6 := S_none (n := o.1.length) (p := fun x => aL o (aU o (aL o x))) (y := (o.1.length : Int) + y) (fun x hx => by have := (sL v (sU v (sL v hx))).2; omega) (f := aV o.1.length c)
  constructor
  · refine (congr (congrArg HAdd.hAdd (congr (congrArg HAdd.hAdd a1) a3)) a2).trans ?_
    omega
  · refine (congr (congrArg HAdd.hAdd (congr (congrArg HAdd.hAdd a4) a5)) a6).trans ?_
    omega
theorem letT_t {c : List Int} {y : Int} (hy : Sq o.1.length y) : letT 116 o c o.1.length y.toNat = aH c (aL o y) - aV o.1.length c (aD o (aL o y)) ∧ letT 116 o c o.1.length ((o.1.length : Int) + y).toNat = aV o.1.length c (aL o y) := by
  have h1 := hy.1; have h2 := hy.2
  have hl := sL v hy
  have hz := sD v hl
  have e1 : ∀ x, Sq o.1.length x → (y = aR o x ↔ x = aL o y) := fun x hx => ⟨fun h => by rw [h, LR v hx], fun h => by rw [h, RL v hy]⟩
  have e2 : ∀ x, Sq o.1.length x → (y = aR o (aU o x) ↔ x = aD o (aL o y)) := fun x hx => ⟨fun h => by rw [h, LR v (sU v hx), DU v hx], fun h => by rw [h, UD v hl, RL v hy]⟩
  rw [letT_S, letT_S]
  simp only [bE, bS, lE, lS, lF, lT, if_true, Int.one_mul, if_neg (show ¬ (116 : Int) = 84 by decide)]
  rw [Int.toNat_of_nonneg h1, Int.toNat_of_nonneg (by omega)]
  have a1 := S_at (n := o.1.length) (p := aR o) hl e1 (f := aH c)
  have a2 := S_at (n := o.1.length) (p := fun x => aR o (aU o x)) hz e2 (f := fun x => -1 * aV o.1.length c x)
  have a3 := S_none (n := o.1.length) (p := fun x => (o.1.length : Int) + aR o x) (y := y) (fun x hx => by have := (sR v hx).1; omega) (f := aV o.1.length c)
  have a4 := S_none (n := o.1.length) (p := aR o) (y := (o.1.length : Int) + y) (fun x hx => by have := (sR v hx).2; omega) (f := aH c)
  have a5 := S_at (n := o.1.length) (p := fun x => (o.1.length : Int) + aR o x) (y := (o.1.length : Int) + y) hl (fun x hx => by rw [← e1 x hx]; omega) (f := aV o.1.length c)
  have a6 := S_none (n := o.1.length) (p := fun x => aR o (aU o x)) (y := (o.1.length : Int) + y) (fun x hx => by have := (sR v (sU v hx)).2; omega) (f := fun x => -1 * aV o.1.length c x)
  constructor
  · refine (congr (congrArg HAdd.hAdd (congr (congrArg HAdd.hAdd a1) a3)) a2).trans ?_
    omega
  · refine (congr (congrArg HAdd.hAdd (congr (congrArg HAdd.hAdd a4) a5)) a6).trans ?_
    omega
theorem letT_S' {c : List Int} {y : Int} (hy : Sq o.1.length y) : letT 83 o c o.1.length y.toNat = -aV o.1.length c y ∧ letT 83 o c o.1.length ((o.1.length : Int) + y).toNat = aH c (aU o y) := by
  have h1 := hy.1; have h2 := hy.2
  have hu := sU v hy
  have e1 : ∀ x, Sq o.1.length x → (y = aD o x ↔ x = aU o y) := fun x hx => ⟨fun h => by rw [h, UD v hx], fun h => by rw [h, DU v hy]⟩
  rw [letT_S, letT_S]
  simp only [bE, bS, lE, lS, lF, lT, if_true, Int.one_mul, if_neg (show ¬ (83 : Int) = 84 by decide), if_neg (show ¬ (83 : Int) = 116 by decide)]
  rw [Int.toNat_of_nonneg h1, Int.toNat_of_nonneg (by omega)]
  have a1 := S_none (n := o.1.length) (p := fun x => (o.1.length : Int) + aD o x) (y := y) (fun x hx => by have := (sD v hx).1; omega) (f := aH c)
  have a2 := S_at (n := o.1.length) (p := fun x => x) (y := y) hy (fun x _ => ⟨fun h => h.symm, fun h => h.symm⟩) (f := fun x => -1 * aV o.1.length c x)
  have a3 := S_triv (n := o.1.length) (p := fun _ => 0) (y := y) (f := aV o.1.length c)
  have a4 := S_at (n := o.1.length) (p := fun x => (o.1.length : Int) + aD o x) (y := (o.1.length : Int) + y) hu (fun x hx => by rw [← e1 x hx]; omega) (f := aH c)
  have a5 := S_none (n := o.1.length) (p := fun x => x) (y := (o.1.length : Int) + y) (fun x hx => by have := hx.2; omega) (f := fun x => -1 * aV o.1.length c x)
  have a6 := S_triv (n := o.1.length) (p := fun _ => 0) (y := (o.1.length : Int) + y) (f := aV o.1.length c)
  constructor
  · refine (congr (congrArg HAdd.hAdd (congr (congrArg HAdd.hAdd a1) a2)) a3).trans ?_
    omega
  · refine (congr (congrArg HAdd.hAdd (congr (congrArg HAdd.hAdd a4) a5)) a6).trans ?_
    omega
theorem letT_s {c : List Int} {y : Int} (hy : Sq o.1.length y) : letT 115 o c o.1.length y.toNat = aV o.1.length c (aR o y) ∧ letT 115 o c o.1.length ((o.1.length : Int) + y).toNat = -aH c y := by
  have h1 := hy.1; have h2 := hy.2
  have hr := sR v hy
  have e1 : ∀ x, Sq o.1.length x → (y = aL o x ↔ x = aR o y) := fun x hx => ⟨fun h => by rw [h, RL v hx], fun h => by rw [h, LR v hy]⟩
  rw [letT_S, letT_S]
  simp only [bE, bS, lE, lS, lF, lT, Int.one_mul, if_neg (show ¬ (115 : Int) = 84 by decide), if_neg (show ¬ (115 : Int) = 116 by decide), if_neg (show ¬ (115 : Int) = 83 by decide)]
  rw [Int.toNat_of_nonneg h1, Int.toNat_of_nonneg (by omega)]
  have a1 := S_none (n := o.1.length) (p := fun x => (o.1.length : Int) + x) (y := y) (fun x hx => by have := hx.1; omega) (f := fun x => -1 * aH c x)
  have a2 := S_at (n := o.1.length) (p := aL o) (y := y) hr e1 (f := aV o.1.length c)
  have a3 := S_triv (n := o.1.length) (p := fun _ => 0) (y := y) (f := aV o.1.length c)
  have a4 := S_at (n := o.1.length) (p := fun x => (o.1.length : Int) + x) (y := (o.1.length : Int) + y) hy (fun x _ => ⟨fun h => by omega, fun h => by omega⟩) (f := fun x => -1 * aH c x)
  have a5 := S_none (n := o.1.length) (p := aL o) (y := (o.1.length : Int) + y) (fun x hx => by have := (sL v hx).2; omega) (f := aV o.1.length c)
  have a6 := S_triv (n := o.1.length) (p := fun _ => 0) (y := (o.1.length : Int) + y) (f := aV o.1.length c)
  constructor
  · refine (congr (congrArg HAdd.hAdd (congr (congrArg HAdd.hAdd a1) a2)) a3).trans ?_
    omega
  · refine (congr (congrArg HAdd.hAdd (congr (congrArg HAdd.hAdd a4) a5)) a6).trans ?_
    omega
end
end Go.Fl

/- Letters as shears and quarter turns, and back. Plain Lean. -/
namespace Go.Fl
open Go Go.RowKit
theorem Bd.h {c : List Int} {B : Int} (h : Bd c B) (y : Int) : -B ≤ aH c y ∧ aH c y ≤ B := h _
theorem Bd.v {c : List Int} {B : Int} (h : Bd c B) (n : Nat) (y : Int) : -B ≤ aV n c y ∧ aV n c y ≤ B := h _
theorem nth_beyond {xs : List Int} {i : Nat} (h : xs.length ≤ i) : nth xs i = 0 := by
  unfold nth; rw [List.getD_eq_getElem?_getD, List.getElem?_eq_none h]; rfl
/-- Two chains with the same numbers at all edges. -/
theorem chain_ext {n : Nat} {a b : List Int} (ha : a.length = 2 * n) (hb : b.length = 2 * n) (hh : ∀ x, Sq n x → aH a x = aH b x) (hv : ∀ x, Sq n x → aV n a x = aV n b x) : a = b := by
  refine ext_nth (ha.trans hb.symm) fun i hi => ?_
  by_cases h : i < n
  · have := hh i (Sq.nat h)
    simpa [aH] using this
  · have := hv ((i : Int) - n) ⟨by omega, by omega⟩
    unfold aV at this
    rwa [show ((n : Int) + ((i : Int) - n)).toNat = i by omega] at this
theorem bd_of_edges {n : Nat} {a : List Int} {B : Int} (hB : 0 ≤ B) (ha : a.length = 2 * n) (hh : ∀ x, Sq n x → -B ≤ aH a x ∧ aH a x ≤ B) (hv : ∀ x, Sq n x → -B ≤ aV n a x ∧ aV n a x ≤ B) : Bd a B := fun i => by
  by_cases h : i < n
  · have := hh i (Sq.nat h)
    simpa [aH] using this
  · by_cases h2 : i < 2 * n
    · have := hv ((i : Int) - n) ⟨by omega, by omega⟩
      unfold aV at this
      rwa [show ((n : Int) + ((i : Int) - n)).toNat = i by omega] at this
    · rw [nth_beyond (by omega)]; omega
theorem letO_84 {o : Ori} : letO 84 o = (o.1, thenL o.2 (invL o.1)) := rfl
theorem letO_116 {o : Ori} : letO 116 o = (o.1, thenL o.2 o.1) := rfl
theorem letO_83 {o : Ori} : letO 83 o = (invL o.2, o.1) := rfl
theorem letO_115 {o : Ori} : letO 115 o = (o.2, invL o.1) := rfl
theorem ap_then {p q : List Int} {x : Int} (h0 : 0 ≤ x) (h1 : x < p.length) : ap (thenL p q) x = ap q (ap p x) := by
  unfold ap thenL; rw [nth_tab (by omega)]
section
variable {o : Ori} (v : Valid o)
include v
theorem relT : RelT o (letO 84 o) := by
  have v' := (letO_valid v 84).1
  have hu : ∀ x, Sq o.1.length x → aU (letO 84 o) x = aL o (aU o x) := fun x hx => by rw [letO_84]; exact ap_then hx.1 (by rw [v.len]; exact hx.2)
  refine ⟨rfl, fun x _ => rfl, fun x _ => rfl, hu, fun x hx => ?_⟩
  have hr := sR v hx
  have := DU v' (x := aD o (aR o x)) (sD v hr)
  rw [hu _ (sD v hr), UD v hr, LR v hx] at this
  exact this
theorem relt : RelT (letO 116 o) o := by
  have v' := (letO_valid v 116).1
  have hu : ∀ x, Sq o.1.length x → aU (letO 116 o) x = aR o (aU o x) := fun x hx => by rw [letO_116]; exact ap_then hx.1 (by rw [v.len]; exact hx.2)
  refine ⟨rfl, fun x _ => rfl, fun x _ => rfl, fun x hx => ?_, fun x hx => ?_⟩
  · rw [hu x hx]; exact (LR v (sU v hx)).symm
  · have := DU v' (x := aD o x) (sD v hx)
    rw [hu _ (sD v hx), UD v hx] at this
    exact this.symm
theorem relS : RelS o (letO 83 o) := by
  have v' := (letO_valid v 83).1
  refine ⟨by rw [letO_83]; exact (invL_len _).trans v.len, fun x _ => rfl, fun x hx => ?_, fun x _ => rfl, fun x _ => rfl⟩
  have hu := sU v hx
  have := LR v' (x := aU o x) (by rw [(letO_valid v 83).2]; exact hu)
  rw [show aR (letO 83 o) (aU o x) = aD o (aU o x) from rfl, DU v hx] at this
  exact this
theorem rels : RelS (letO 115 o) o := by
  have v' := (letO_valid v 115).1
  refine ⟨v.len.symm, fun x hx => ?_, fun x _ => rfl, fun x _ => rfl, fun x _ => rfl⟩
  have hl := sR v (x := x) (by rw [show (letO 115 o).1 = o.2 from rfl, v.len] at hx; exact hx)
  have hx2 : Sq o.1.length x := by rw [show (letO 115 o).1 = o.2 from rfl, v.len] at hx; exact hx
  have := DU v' (x := aR o x) (by rw [(letO_valid v 115).2]; exact hl)
  rw [show aU (letO 115 o) (aR o x) = aL o (aR o x) from rfl, LR v hx2] at this
  exact this.symm
variable {c : List Int} {B : Int} (hb : Bd c B) (hB : B ≤ 1000000000)
include hb hB
theorem chT : ChT o (letO 84 o) c (letC 84 o c) := by
  refine ⟨fun x hx => ?_, fun x hx => ?_⟩
  · have h1 := hb.h (aR o x); have h2 := hb.v o.1.length (aR o (aD o (aR o x)))
    rw [letC_aH hx, (letT_T v hx).1, W_in (by omega) (by omega)]
  · have h2 := hb.v o.1.length (aR o x)
    show aV o.1.length _ x = _
    rw [letC_aV hx, (letT_T v hx).2, W_in (by omega) (by omega)]
theorem cht : ChT (letO 116 o) o (letC 116 o c) c := by
  have eh : ∀ x, Sq o.1.length x → aH (letC 116 o c) x = aH c (aL o x) - aV o.1.length c (aD o (aL o x)) := fun x hx => by
    have h1 := hb.h (aL o x); have h2 := hb.v o.1.length (aD o (aL o x))
    rw [letC_aH hx, (letT_t v hx).1, W_in (by omega) (by omega)]
  have ev : ∀ x, Sq o.1.length x → aV o.1.length (letC 116 o c) x = aV o.1.length c (aL o x) := fun x hx => by
    have h2 := hb.v o.1.length (aL o x)
    rw [letC_aV hx, (letT_t v hx).2, W_in (by omega) (by omega)]
  have t := relt v
  have hd : ∀ x, Sq o.1.length x → aD (letO 116 o) (aR o x) = aD o x := fun x hx => (t.d x hx).symm
  refine ⟨fun x hx => ?_, fun x hx => ?_⟩
  · have hx : Sq o.1.length x := hx
    have hr := sR v hx
    have hdx := sD v hx
    show aH c x = aH (letC 116 o c) (aR o x) + aV o.1.length (letC 116 o c) (aR o (aD (letO 116 o) (aR o x)))
    rw [eh _ hr, LR v hx, hd x hx, ev _ (sR v hdx), LR v hdx]; omega
  · have hx : Sq o.1.length x := hx
    show aV o.1.length c x = aV o.1.length (letC 116 o c) (aR o x)
    rw [ev _ (sR v hx), LR v hx]
theorem chS : ChS o (letO 83 o) c (letC 83 o c) := by
  refine ⟨fun x hx => ?_, fun x hx => ?_⟩
  · have h2 := hb.v o.1.length x
    rw [letC_aH hx, (letT_S' v hx).1, W_in (by omega) (by omega)]
  · have h1 := hb.h (aU o x)
    rw [(letO_valid v 83).2, letC_aV hx, (letT_S' v hx).2, W_in (by omega) (by omega)]
theorem chs : ChS (letO 115 o) o (letC 115 o c) c := by
  have eh : ∀ x, Sq o.1.length x → aH (letC 115 o c) x = aV o.1.length c (aR o x) := fun x hx => by
    have h2 := hb.v o.1.length (aR o x)
    rw [letC_aH hx, (letT_s v hx).1, W_in (by omega) (by omega)]
  have ev : ∀ x, Sq o.1.length x → aV o.1.length (letC 115 o c) x = -aH c x := fun x hx => by
    have h1 := hb.h x
    rw [letC_aV hx, (letT_s v hx).2, W_in (by omega) (by omega)]
  have hn := (letO_valid v 115).2
  refine ⟨fun x hx => ?_, fun x hx => ?_⟩
  · rw [hn] at hx ⊢
    rw [ev x hx]; omega
  · rw [hn] at hx
    show aV o.1.length c x = aH (letC 115 o c) (aL o x)
    rw [eh _ (sL v hx), RL v hx]
theorem letC_bd {x : Int} (hx : isLet x = true) (h0 : 0 ≤ B) : Bd (letC x o c) (2 * B) := by
  refine bd_of_edges (n := o.1.length) (by omega) letC_len (fun y hy => ?_) (fun y hy => ?_)
  · rcases isLet_cases hx with rfl | rfl | rfl | rfl
    · rw [(chT v hb hB).h y hy]
      have h1 := hb.h (aR o y); have h2 := hb.v o.1.length (aR o (aD o (aR o y))); omega
    · have h1 := hb.h (aL o y); have h2 := hb.v o.1.length (aD o (aL o y))
      rw [letC_aH hy, (letT_t v hy).1, W_in (by omega) (by omega)]; omega
    · have h2 := hb.v o.1.length y
      rw [letC_aH hy, (letT_S' v hy).1, W_in (by omega) (by omega)]; omega
    · have h2 := hb.v o.1.length (aR o y)
      rw [letC_aH hy, (letT_s v hy).1, W_in (by omega) (by omega)]; omega
  · rcases isLet_cases hx with rfl | rfl | rfl | rfl
    · have h2 := hb.v o.1.length (aR o y)
      rw [letC_aV hy, (letT_T v hy).2, W_in (by omega) (by omega)]; omega
    · have h2 := hb.v o.1.length (aL o y)
      rw [letC_aV hy, (letT_t v hy).2, W_in (by omega) (by omega)]; omega
    · have h1 := hb.h (aU o y)
      rw [letC_aV hy, (letT_S' v hy).2, W_in (by omega) (by omega)]; omega
    · have h1 := hb.h y
      rw [letC_aV hy, (letT_s v hy).2, W_in (by omega) (by omega)]; omega
end
end Go.Fl

/- One letter: it keeps cycles, the form and boundaries, moves holonomies by its matrix, and its inverse undoes it. Plain Lean. -/
namespace Go.Fl
open Go Go.RowKit
theorem ori_ext {a b : Ori} (va : Valid a) (vb : Valid b) (hn : a.1.length = b.1.length) (hr : ∀ x, Sq a.1.length x → aR a x = aR b x) (hu : ∀ x, Sq a.1.length x → aU a x = aU b x) : a = b := by
  refine Prod.ext (ext_nth hn fun i hi => ?_) (ext_nth (by rw [va.len, vb.len, hn]) fun i hi => ?_)
  · simpa [ap] using hr i (Sq.nat hi)
  · simpa [ap] using hu i (Sq.nat (by rw [← va.len]; exact hi))
theorem RelT.uniq1 {a b o' : Ori} (va : Valid a) (vb : Valid b) (ha : RelT a o') (hb : RelT b o') : a = b := by
  have hn : a.1.length = b.1.length := ha.n.symm.trans hb.n
  have hr : ∀ x, Sq a.1.length x → aR a x = aR b x := fun x hx => (ha.r x hx).symm.trans (hb.r x (by rw [← hn]; exact hx))
  refine ori_ext va vb hn hr fun x hx => ?_
  have hx2 : Sq b.1.length x := by rw [← hn]; exact hx
  have h1 := ha.u x hx
  have h2 := hb.u x hx2
  have e1 : aU a x = aR a (aU o' x) := by rw [h1, RL va (sU va hx)]
  have e2 : aU b x = aR b (aU o' x) := by rw [h2, RL vb (sU vb hx2)]
  rw [e1, e2]
  exact hr _ (by rw [h1]; exact sL va (sU va hx))
theorem RelT.uniq2 {o a b : Ori} (va : Valid a) (vb : Valid b) (ha : RelT o a) (hb : RelT o b) : a = b :=
  ori_ext va vb (ha.n.trans hb.n.symm) (fun x hx => (ha.r x (by rw [← ha.n]; exact hx)).trans (hb.r x (by rw [← ha.n]; exact hx)).symm) (fun x hx => (ha.u x (by rw [← ha.n]; exact hx)).trans (hb.u x (by rw [← ha.n]; exact hx)).symm)
theorem RelS.uniq1 {a b o' : Ori} (va : Valid a) (vb : Valid b) (ha : RelS a o') (hb : RelS b o') : a = b := by
  have hn : a.1.length = b.1.length := ha.n.symm.trans hb.n
  exact ori_ext va vb hn (fun x hx => (ha.u x hx).symm.trans (hb.u x (by rw [← hn]; exact hx))) (fun x hx => (ha.l x hx).symm.trans (hb.l x (by rw [← hn]; exact hx)))
theorem RelS.uniq2 {o a b : Ori} (va : Valid a) (vb : Valid b) (ha : RelS o a) (hb : RelS o b) : a = b :=
  ori_ext va vb (ha.n.trans hb.n.symm) (fun x hx => (ha.r x (by rw [← ha.n]; exact hx)).trans (hb.r x (by rw [← ha.n]; exact hx)).symm) (fun x hx => (ha.u x (by rw [← ha.n]; exact hx)).trans (hb.u x (by rw [← ha.n]; exact hx)).symm)
theorem ChT.uniq1 {o o' : Ori} (v : Valid o) {c1 c2 c' : List Int} (l1 : c1.length = 2 * o.1.length) (l2 : c2.length = 2 * o.1.length) (h1 : ChT o o' c1 c') (h2 : ChT o o' c2 c') : c1 = c2 := by
  have hv : ∀ x, Sq o.1.length x → aV o.1.length c1 x = aV o.1.length c2 x := fun x hx => by
    have a1 := h1.v _ (sL v hx); have a2 := h2.v _ (sL v hx)
    rw [RL v hx] at a1 a2
    rw [← a1, ← a2]
  refine chain_ext l1 l2 (fun x hx => ?_) hv
  have a1 := h1.h _ (sL v hx); have a2 := h2.h _ (sL v hx)
  rw [RL v hx] at a1 a2
  have := hv _ (sR v (sD v hx))
  omega
theorem ChT.uniq2 {o o' : Ori} (t : RelT o o') {c c1 c2 : List Int} (l1 : c1.length = 2 * o'.1.length) (l2 : c2.length = 2 * o'.1.length) (h1 : ChT o o' c c1) (h2 : ChT o o' c c2) : c1 = c2 :=
  chain_ext l1 l2 (fun x hx => by rw [t.n] at hx; rw [h1.h x hx, h2.h x hx]) (fun x hx => by rw [t.n] at hx; rw [h1.v x hx, h2.v x hx])
theorem ChS.uniq1 {o o' : Ori} (v : Valid o) {c1 c2 c' : List Int} (l1 : c1.length = 2 * o.1.length) (l2 : c2.length = 2 * o.1.length) (h1 : ChS o o' c1 c') (h2 : ChS o o' c2 c') : c1 = c2 := by
  refine chain_ext l1 l2 (fun x hx => ?_) (fun x hx => ?_)
  · have a1 := h1.v _ (sD v hx); have a2 := h2.v _ (sD v hx)
    rw [UD v hx] at a1 a2
    rw [← a1, ← a2]
  · have a1 := h1.h x hx; have a2 := h2.h x hx; omega
theorem ChS.uniq2 {o o' : Ori} (t : RelS o o') {c c1 c2 : List Int} (l1 : c1.length = 2 * o'.1.length) (l2 : c2.length = 2 * o'.1.length) (h1 : ChS o o' c c1) (h2 : ChS o o' c c2) : c1 = c2 :=
  chain_ext l1 l2 (fun x hx => by rw [t.n] at hx; rw [h1.h x hx, h2.h x hx]) (fun x hx => by rw [t.n] at hx; rw [h1.v x hx, h2.v x hx])
def invx (x : Int) : Int := if x = 84 then 116 else if x = 116 then 84 else if x = 83 then 115 else 83
section
variable {o : Ori} (v : Valid o) {x : Int} (hx : isLet x = true) {c : List Int} {B : Int} (hb : Bd c B) (h0 : 0 ≤ B) (hB : 2 * B ≤ 1000000) (hl : c.length = 2 * o.1.length)
include v hx
theorem inv_letO : letO (invx x) (letO x o) = o := by
  have v' := (letO_valid v x).1
  have v2 := (letO_valid v' (invx x)).1
  rcases isLet_cases hx with rfl | rfl | rfl | rfl
  · exact RelT.uniq1 v2 v (relt v') (relT v)
  · exact RelT.uniq2 v2 v (relT v') (relt v)
  · exact RelS.uniq1 v2 v (rels v') (relS v)
  · exact RelS.uniq2 v2 v (relS v') (rels v)
include hb h0 hB hl
theorem inv_letC : letC (invx x) (letO x o) (letC x o c) = c := by
  have v' := (letO_valid v x).1
  have hn := (letO_valid v x).2
  have hb' := letC_bd v hb (by omega) hx h0
  have hi := inv_letO v hx
  have l2 : (letC (invx x) (letO x o) (letC x o c)).length = 2 * o.1.length := by rw [letC_len, hn]
  rcases isLet_cases hx with rfl | rfl | rfl | rfl
  · have q := cht v' hb' (by omega)
    rw [show letO 116 (letO 84 o) = o from hi] at q
    exact ChT.uniq1 v l2 hl q (chT v hb (by omega))
  · have q := chT v' hb' (by omega)
    rw [show letO 84 (letO 116 o) = o from hi] at q
    exact ChT.uniq2 (relt v) l2 hl q (cht v hb (by omega))
  · have q := chs v' hb' (by omega)
    rw [show letO 115 (letO 83 o) = o from hi] at q
    exact ChS.uniq1 v l2 hl q (chS v hb (by omega))
  · have q := chS v' hb' (by omega)
    rw [show letO 83 (letO 115 o) = o from hi] at q
    exact ChS.uniq2 (rels v) l2 hl q (chs v hb (by omega))
end
theorem let_cyc {o : Ori} (v : Valid o) {x : Int} (hx : isLet x = true) {c : List Int} {B : Int} (hb : Bd c B) (h0 : 0 ≤ B) (hB : 2 * B ≤ 1000000) (_hl : c.length = 2 * o.1.length) (h : Cyc o c) : Cyc (letO x o) (letC x o c) := by
  have v' := (letO_valid v x).1
  have hn := (letO_valid v x).2
  have hb' := letC_bd v hb (by omega) hx h0
  refine ⟨by rw [letC_len, hn], fun i => by have := hb' i; omega, ?_⟩
  rcases isLet_cases hx with rfl | rfl | rfl | rfl
  · exact ((chT v hb (by omega)).bnd v v' (relT v)).1 h.bnd
  · exact ((cht v hb (by omega)).bnd v' v (relt v)).2 h.bnd
  · exact ((chS v hb (by omega)).bnd v v' (relS v)).1 h.bnd
  · exact ((chs v hb (by omega)).bnd v' v (rels v)).2 h.bnd
theorem let_isI {o : Ori} (v : Valid o) {x : Int} (hx : isLet x = true) {a b : List Int} {B : Int} (hba : Bd a B) (hbb : Bd b B) (h0 : 0 ≤ B) (hB : 2 * B ≤ 1000000) (ha : Cyc o a) (hb : Cyc o b) : isI (letO x o) (letC x o a) (letC x o b) = isI o a b := by
  have v' := (letO_valid v x).1
  have ha' := let_cyc v hx hba h0 hB ha.len ha
  have hb' := let_cyc v hx hbb h0 hB hb.len hb
  rcases isLet_cases hx with rfl | rfl | rfl | rfl
  · exact ChT.isI v v' (relT v) (chT v hba (by omega)) (chT v hbb (by omega)) ha hb ha' hb'
  · exact (ChT.isI v' v (relt v) (cht v hba (by omega)) (cht v hbb (by omega)) ha' hb' ha hb).symm
  · exact ChS.isI v v' (relS v) (chS v hba (by omega)) (chS v hbb (by omega)) hb ha' hb'
  · exact (ChS.isI v' v (rels v) (chs v hba (by omega)) (chs v hbb (by omega)) hb' ha hb).symm

/-! ### Potentials -/
theorem bdB_iff {o : Ori} (v : Valid o) {c : List Int} (hc : c.length = 2 * o.1.length) : bdB o c = true ↔ ∃ y, PotW o c y := by
  constructor
  · intro h
    exact ⟨_, (potL_iff hc).1 (of_decide_eq_true h)⟩
  · rintro ⟨y, hy⟩
    exact bdB_of v hc hy
theorem W_fix {a B : Int} (h : -B ≤ a ∧ a ≤ B) (hB : B ≤ 1000000000) : a = W a := (W_in (by omega) (by omega)).symm
theorem W2 {a b c d e f : Int} (h1 : W (a - b) = c) (h2 : W (d - e) = f) : W (c + f) = W ((a - b) + (d - e)) := by rw [← h1, ← h2, W_add_l, W_add_r]
theorem W1 {a b c : Int} (h1 : W (a - b) = c) : W (-c) = W (b - a) := by rw [← h1, W_neg]; congr 1; omega
theorem ChT.pot {o o' : Ori} (v : Valid o) (t : RelT o o') {c c' : List Int} {B B' : Int} (q : ChT o o' c c') (hb : Bd c B) (hB : B ≤ 1000000000) (hb' : Bd c' B') (hB' : B' ≤ 1000000000) : (∃ y, PotW o c y) ↔ ∃ y, PotW o' c' y := by
  constructor
  · rintro ⟨y, hy⟩
    refine ⟨fun x => y (aR o x), fun x hx => ?_, fun x hx => ?_⟩
    · rw [t.n] at hx
      have hr := sR v hx
      have hd := sD v hr
      have a1 : W (y (aR o x) - y (aD o (aR o x))) = aH c (aR o x) := hy.h _ hr
      have a2 : W (y (aL o (aR o (aD o (aR o x)))) - y (aR o (aD o (aR o x)))) = aV o.1.length c (aR o (aD o (aR o x))) := hy.v _ (sR v hd)
      rw [LR v hd] at a2
      show W (y (aR o x) - y (aR o (aD o' x))) = aH c' x
      have e := W_fix (hb'.h x) hB'
      rw [q.h x hx] at e
      rw [q.h x hx, e, W2 a1 a2, t.d x hx]
      congr 1; omega
    · rw [t.n] at hx
      have hr := sR v hx
      have a1 : W (y (aL o (aR o x)) - y (aR o x)) = aV o.1.length c (aR o x) := hy.v _ hr
      rw [LR v hx] at a1
      show W (y (aR o (aL o' x)) - y (aR o x)) = aV o'.1.length c' x
      rw [q.v x hx, t.l x hx, RL v hx]; exact a1
  · rintro ⟨y, hy⟩
    have hv : ∀ x, Sq o.1.length x → W (y (aL o (aL o x)) - y (aL o x)) = aV o.1.length c x := fun x hx => by
      have hl := sL v hx
      have a1 : W (y (aL o' (aL o x)) - y (aL o x)) = aV o'.1.length c' (aL o x) := hy.v _ (by rw [t.n]; exact hl)
      rw [q.v _ hl, t.l _ hl, RL v hx] at a1
      exact a1
    refine ⟨fun x => y (aL o x), fun x hx => ?_, fun x hx => hv x hx⟩
    have hl := sL v hx
    have hd := sD v hx
    have a1 : W (y (aL o x) - y (aD o' (aL o x))) = aH c' (aL o x) := hy.h _ (by rw [t.n]; exact hl)
    rw [t.d _ hl, RL v hx, q.h _ hl, RL v hx] at a1
    have a2 := hv _ (sR v hd)
    rw [LR v hd] at a2
    show W (y (aL o x) - y (aL o (aD o x))) = aH c x
    rw [W_fix (hb.h x) hB, show aH c x = (aH c x + aV o.1.length c (aR o (aD o x))) + -aV o.1.length c (aR o (aD o x)) by omega, ← W_add_r, W1 a2, ← a1, W_add_l, W_add_r]
    congr 1; omega
theorem ChS.pot {o o' : Ori} (v : Valid o) (t : RelS o o') {c c' : List Int} {B B' : Int} (q : ChS o o' c c') (hb : Bd c B) (hB : B ≤ 1000000000) (hb' : Bd c' B') (hB' : B' ≤ 1000000000) : (∃ y, PotW o c y) ↔ ∃ y, PotW o' c' y := by
  constructor
  · rintro ⟨y, hy⟩
    refine ⟨y, fun x hx => ?_, fun x hx => ?_⟩
    · rw [t.n] at hx
      have a1 : W (y (aL o x) - y x) = aV o.1.length c x := hy.v _ hx
      show W (y x - y (aD o' x)) = aH c' x
      have e := W_fix (hb'.h x) hB'
      rw [q.h x hx] at e
      rw [q.h x hx, e, W1 a1, t.d x hx]
    · rw [t.n] at hx
      have hu := sU v hx
      have a1 : W (y (aU o x) - y (aD o (aU o x))) = aH c (aU o x) := hy.h _ hu
      rw [DU v hx] at a1
      show W (y (aL o' x) - y x) = aV o'.1.length c' x
      rw [q.v x hx, t.l x hx]; exact a1
  · rintro ⟨y, hy⟩
    refine ⟨y, fun x hx => ?_, fun x hx => ?_⟩
    · have hd := sD v hx
      have a1 : W (y (aL o' (aD o x)) - y (aD o x)) = aV o'.1.length c' (aD o x) := hy.v _ (by rw [t.n]; exact hd)
      rw [q.v _ hd, t.l _ hd, UD v hx] at a1
      exact a1
    · have a1 : W (y x - y (aD o' x)) = aH c' x := hy.h _ (by rw [t.n]; exact hx)
      rw [q.h x hx, t.d x hx] at a1
      have := W1 a1
      rw [Int.neg_neg] at this
      show W (y (aL o x) - y x) = aV o.1.length c x
      rw [← this, ← W_fix (hb.v o.1.length x) hB]
theorem let_bd {o : Ori} (v : Valid o) {x : Int} (hx : isLet x = true) {c : List Int} {B : Int} (hb : Bd c B) (h0 : 0 ≤ B) (hB : 2 * B ≤ 1000000) (hl : c.length = 2 * o.1.length) : bdB (letO x o) (letC x o c) = bdB o c := by
  have v' := (letO_valid v x).1
  have hn := (letO_valid v x).2
  have hb' := letC_bd v hb (by omega) hx h0
  rw [Bool.eq_iff_iff, bdB_iff v hl, bdB_iff v' (by rw [letC_len, hn])]
  rcases isLet_cases hx with rfl | rfl | rfl | rfl
  · exact (ChT.pot v (relT v) (chT v hb (by omega)) hb (by omega) hb' (by omega)).symm
  · exact ChT.pot v' (relt v) (cht v hb (by omega)) hb' (by omega) hb (by omega)
  · exact (ChS.pot v (relS v) (chS v hb (by omega)) hb (by omega) hb' (by omega)).symm
  · exact ChS.pot v' (rels v) (chs v hb (by omega)) hb' (by omega) hb (by omega)

/-! ### Holonomies -/
def hX (o : Ori) (c : List Int) : Int := S o.1.length (aH c)
def hY (o : Ori) (c : List Int) : Int := S o.1.length (aV o.1.length c)
theorem holX_W {o : Ori} {c : List Int} : holX o c = W (hX o c) := by
  unfold holX hX
  congr 1
theorem holY_W {o : Ori} {c : List Int} : holY o c = W (hY o c) := rfl
theorem ChT.hol {o o' : Ori} (v : Valid o) (t : RelT o o') {c c' : List Int} (q : ChT o o' c c') : hX o' c' = hX o c + hY o c ∧ hY o' c' = hY o c := by
  unfold hX hY
  have a1 := S_R v (f := aV o.1.length c)
  have a2 := S_D v (f := fun x => aV o.1.length c (aR o x))
  have a3 := S_R v (f := fun x => aV o.1.length c (aR o (aD o x)))
  have a4 := S_R v (f := aH c)
  constructor
  · rw [t.n, ← a4, ← a1, ← a2, ← a3, ← S_add]
    exact S_congr fun x hx => q.h x hx
  · rw [t.n, ← a1]
    refine S_congr fun x hx => ?_
    have := q.v x hx
    rwa [t.n] at this
theorem ChS.hol {o o' : Ori} (v : Valid o) (t : RelS o o') {c c' : List Int} (q : ChS o o' c c') : hX o' c' = -hY o c ∧ hY o' c' = hX o c := by
  unfold hX hY
  have a1 := S_U v (f := aH c)
  constructor
  · rw [t.n, ← S_neg]
    exact S_congr fun x hx => q.h x hx
  · rw [t.n, ← a1]
    refine S_congr fun x hx => ?_
    have := q.v x hx
    rwa [t.n] at this
/-- What a letter makes of a holonomy. -/
def stX (x X Y : Int) : Int := if x = 84 then X + Y else if x = 116 then X - Y else if x = 83 then -Y else Y
def stY (x X Y : Int) : Int := if x = 84 then Y else if x = 116 then Y else if x = 83 then X else -X
theorem let_hol {o : Ori} (v : Valid o) {x : Int} (hx : isLet x = true) {c : List Int} {B : Int} (hb : Bd c B) (hB : 2 * B ≤ 1000000) (h0 : 0 ≤ B) : hX (letO x o) (letC x o c) = stX x (hX o c) (hY o c) ∧ hY (letO x o) (letC x o c) = stY x (hX o c) (hY o c) := by
  have v' := (letO_valid v x).1
  rcases isLet_cases hx with rfl | rfl | rfl | rfl
  · exact ChT.hol v (relT v) (chT v hb (by omega))
  · have := ChT.hol v' (relt v) (cht v hb (by omega))
    exact ⟨by show _ = hX o c - hY o c; omega, this.2.symm⟩
  · exact ChS.hol v (relS v) (chS v hb (by omega))
  · have := ChS.hol v' (rels v) (chs v hb (by omega))
    exact ⟨this.2.symm, by show _ = -hX o c; omega⟩
end Go.Fl

/- Words: they keep cycles, the form and boundaries, move holonomies, and their inverses undo them. Plain Lean. -/
namespace Go.Fl
open Go Go.RowKit
theorem pO_append : ∀ {a b : List Int} {o : Ori}, pO (a ++ b) o = pO a (pO b o)
  | [], _, _ => rfl
  | x :: a, b, o => by rw [List.cons_append, pO, pO, pO_append (a := a)]
theorem pC_append : ∀ {a b : List Int} {o : Ori} {c : List Int}, pC (a ++ b) o c = pC a (pO b o) (pC b o c)
  | [], _, _, _ => rfl
  | x :: a, b, o, c => by rw [List.cons_append, pC, pC, pC_append (a := a), pO_append]
/-- The inverse of a word. -/
def iw (ws : List Int) : List Int := (ws.map invx).reverse
theorem iw_cons {x : Int} {r : List Int} : iw (x :: r) = iw r ++ [invx x] := by simp [iw]
def hW : List Int → Int × Int → Int × Int
  | [], p => p
  | x :: r, p => (stX x (hW r p).1 (hW r p).2, stY x (hW r p).1 (hW r p).2)
theorem all_cons {x : Int} {r : List Int} (h : (x :: r).all isLet = true) : isLet x = true ∧ r.all isLet = true := by simpa using h
section
variable {o : Ori} (v : Valid o)
include v
theorem word_bd {a : List Int} (hb : Bd a 99) : ∀ {ws : List Int}, ws.all isLet = true → ws.length ≤ 6 → Bd (pC ws o a) (99 * 2 ^ ws.length)
  | [], _, _ => by show Bd a (99 * 2 ^ 0); rw [Int.pow_zero, Int.mul_one]; exact hb
  | x :: r, hw, hl => by
    obtain ⟨h1, h2⟩ := all_cons hw
    have hlr : r.length ≤ 5 := by simpa using hl
    have ih := word_bd hb h2 (by omega)
    have hp : (2 : Int) ^ r.length ≤ 32 := by
      have := Nat.pow_le_pow_right (n := 2) (by omega) hlr
      exact_mod_cast this
    have hp0 : (0 : Int) ≤ 2 ^ r.length := by exact_mod_cast Nat.zero_le (2 ^ r.length)
    have := letC_bd (pO_valid v r).1 ih (by omega) h1 (by omega)
    rw [pC, List.length_cons, Int.pow_succ]
    rwa [show 99 * (2 ^ r.length * 2) = 2 * (99 * (2 : Int) ^ r.length) by omega]
theorem word_cyc {a : List Int} (hb : Bd a 99) (ha : Cyc o a) : ∀ {ws : List Int}, ws.all isLet = true → ws.length ≤ 6 → Cyc (pO ws o) (pC ws o a)
  | [], _, _ => ha
  | x :: r, hw, hl => by
    obtain ⟨h1, h2⟩ := all_cons hw
    have hlr : r.length ≤ 5 := by simpa using hl
    have ih := word_cyc hb ha h2 (by omega)
    have hp : (2 : Int) ^ r.length ≤ 32 := by
      have := Nat.pow_le_pow_right (n := 2) (by omega) hlr
      exact_mod_cast this
    have hp0 : (0 : Int) ≤ 2 ^ r.length := by exact_mod_cast Nat.zero_le (2 ^ r.length)
    exact let_cyc (pO_valid v r).1 h1 (word_bd v hb h2 (by omega)) (by omega) (by omega) ih.len ih
theorem word_isI {a b : List Int} (ha : Bd a 99) (hb : Bd b 99) (ca : Cyc o a) (cb : Cyc o b) : ∀ {ws : List Int}, ws.all isLet = true → ws.length ≤ 6 → isI (pO ws o) (pC ws o a) (pC ws o b) = isI o a b
  | [], _, _ => rfl
  | x :: r, hw, hl => by
    obtain ⟨h1, h2⟩ := all_cons hw
    have hlr : r.length ≤ 5 := by simpa using hl
    have ih := word_isI ha hb ca cb h2 (by omega)
    have hp : (2 : Int) ^ r.length ≤ 32 := by
      have := Nat.pow_le_pow_right (n := 2) (by omega) hlr
      exact_mod_cast this
    have hp0 : (0 : Int) ≤ 2 ^ r.length := by exact_mod_cast Nat.zero_le (2 ^ r.length)
    rw [← ih]
    exact let_isI (pO_valid v r).1 h1 (word_bd v ha h2 (by omega)) (word_bd v hb h2 (by omega)) (by omega) (by omega) (word_cyc v ha ca h2 (by omega)) (word_cyc v hb cb h2 (by omega))
theorem word_all {a : List Int} (hb : Bd a 99) (ca : Cyc o a) : ∀ {ws : List Int}, ws.all isLet = true → ws.length ≤ 6 → bdB (pO ws o) (pC ws o a) = bdB o a ∧ (hX (pO ws o) (pC ws o a), hY (pO ws o) (pC ws o a)) = hW ws (hX o a, hY o a) ∧ pO (iw ws) (pO ws o) = o ∧ pC (iw ws) (pO ws o) (pC ws o a) = a
  | [], _, _ => ⟨rfl, rfl, rfl, rfl⟩
  | x :: r, hw, hl => by
    obtain ⟨h1, h2⟩ := all_cons hw
    have hlr : r.length ≤ 5 := by simpa using hl
    obtain ⟨i1, i2, i3, i4⟩ := word_all hb ca h2 (by omega)
    have hp : (2 : Int) ^ r.length ≤ 32 := by
      have := Nat.pow_le_pow_right (n := 2) (by omega) hlr
      exact_mod_cast this
    have hp0 : (0 : Int) ≤ 2 ^ r.length := by exact_mod_cast Nat.zero_le (2 ^ r.length)
    have vr := (pO_valid v r).1
    have br := word_bd v hb h2 (by omega)
    have cr := word_cyc v hb ca h2 (by omega)
    have e1 := inv_letO vr h1
    have e2 := inv_letC vr h1 br (by omega) (by omega) cr.len
    have e3 := let_hol vr h1 br (by omega) (by omega)
    refine ⟨(let_bd vr h1 br (by omega) (by omega) cr.len).trans i1, ?_, ?_, ?_⟩
    · rw [hW, ← i2, pO, pC, e3.1, e3.2]
    · rw [iw_cons, pO_append]
      show pO (iw r) (letO (invx x) (letO x (pO r o))) = o
      rw [e1, i3]
    · rw [iw_cons, pC_append]
      show pC (iw r) (letO (invx x) (letO x (pO r o))) (letC (invx x) (letO x (pO r o)) (letC x (pO r o) (pC r o a))) = a
      rw [e1, e2, i4]
end
end Go.Fl

/- Bytes and strings: exclusive or, a row of bytes as a string, one string behind another. -/
namespace Go.Fl
open Go Go.RowKit
/-- A string of bytes that are numbers. -/
abbrev strB (xs : List Int) : ByteArray := strOfNums xs
theorem bs_strB {xs : List Int} (h : ∀ x ∈ xs, 0 ≤ x ∧ x < 256) : bs (strB xs) = xs := by
  unfold bs strB strOfNums
  simp only [List.map_map]
  refine (List.map_congr_left fun x hx => ?_).trans (List.map_id _)
  obtain ⟨h0, h1⟩ := h x hx
  have : x.toNat < 256 := by omega
  simp [Function.comp, Nat.mod_eq_of_lt this]
  omega
theorem strB_app {a b : List Int} : strB a ++ strB b = strB (a ++ b) := by
  apply ByteArray.ext
  simp [strB, strOfNums]
theorem strB_size {xs : List Int} : (strB xs).size = xs.length := strOfNums_size xs
section
variable {P : Program} {c : Ctx} {S : Slots} {M : Conts} {p : Bool} {d : Option Tmp} {ty : TypeId} {pos : String} {af : Array Edge} {gd : Option (Nat × Bool)} {x y : Operand} {b b' : Bool}
theorem ok_xor {t t' : TypeId} {k : IntKind} {m n r : Int} (hx : opK S x = some (b, kInt k m)) (hb : p = true → b = true) (hy : opK S y = some (b', kInt k n)) (hb' : p = true → b' = true) (hr : k.wrap ((BitVec.ofInt k.bits m ^^^ BitVec.ofInt k.bits n).toNat) = r) :
    OpOk P c S M ⟨d, .binOp .xor t x y t', ty, pos, af, gd⟩ p (kInt k r) none := by
  subst hr
  exact ok_bin (fun w => by simp [eqGuard, binOp, Op.intBits]) hx hb hy hb'
theorem ok_addS {t t' : TypeId} {m n : ByteArray} (hx : opK S x = some (b, kS m)) (hb : p = true → b = true) (hy : opK S y = some (b', kS n)) (hb' : p = true → b' = true) (h : p = true → m.size + n.size ≤ 9223372036854775807) :
    OpOk P c S M ⟨d, .binOp .add t x y t', ty, pos, af, gd⟩ p (kS (m ++ n)) none := by
  cases p with
  | false => exact fun hp => by cases hp
  | true =>
    have h' := h rfl
    refine ok_bin (fun w => ?_) hx hb hy hb'
    simp only [eqGuard, binOp, Op.stringOp, Sem.run_bind]
    simp
    omega
theorem ok_bytesS {src t e' : TypeId} [hs : TySl P src e'] [he : TyKind P e' .u8] [ht : TyString P t] {xs : List Int} (hx : opK S x = some (b, kRd (eL (eInt .u8)) xs)) (hb : p = true → b = true) (hne : p = true → xs ≠ []) :
    OpOk P c S M ⟨d, .convert src t x, ty, pos, af, gd⟩ p (kS (strB xs)) none :=
  OpOk.pure fun hp a g w hok _ ho => by
    obtain ⟨cs, ⟨ad, cap, rfl, hl, hr⟩, hv⟩ := ho x (by simp [Op.operands]) b _ hx (hb hp)
    rcases hr with h | ⟨bl, o, rfl, hrow⟩
    · exact absurd h (hne hp)
    · have hv' : a.eval x = .slice (some ⟨bl, o, none⟩) xs.length cap := hv
      have hc := run_convert_bytes_arg (P := P) w src e' hs.h he.h bl o xs.length cap xs rfl (fun i hi => by
        obtain ⟨ds, h1, h2⟩ := hrow i _ (nth_get hi)
        have h1' : ds = [.int .u8 (nth xs i)] := h1
        subst h1'
        have := cell_J hok h2 0 _ rfl
        simpa [eInt, nth, List.getD_eq_getElem?_getD] using this) t ht.h
      exact ⟨.string (strB xs), by simp only [execOp, hv', hc, Sem.run_bind, Result.andThen_ok, Sem.run_pure], rfl⟩
end
end Go.Fl

/- The law of words. -/
namespace Go.Fl
open Go Go.Proofs


def absW (n : Int) : Int := if n < 0 then W (-n) else n
def plE (x : Int) : Bool := !(decide (99 < absW x) && decide (absW x ≤ 1000000))
def rowB (r : List Int) : Bool := decide (r.length ≤ 20) && r.all plE
def plB (b : List (List Int)) : Bool := decide (¬ ((8 < b.length ∧ b.length ≤ 40) ∨ 45 < b.length)) && b.all rowB
theorem all_nth {α : Type} [Inhabited α] {l : List α} {q : α → Bool} (h : ∀ i, i < l.length → q (nth l i) = true) : l.all q = true := List.all_eq_true.2 fun x hx => by
  obtain ⟨i, hi, rfl⟩ := List.getElem_of_mem hx
  have := h i hi
  rwa [nth_of_get? (List.getElem?_eq_getElem hi)] at this
theorem all_not {α : Type} [Inhabited α] {l : List α} {q : α → Bool} {k : Nat} (hk : k < l.length) (h : q (nth l k) = false) : l.all q = false := by
  cases hh : l.all q with
  | false => rfl
  | true => rw [List.all_eq_true.1 hh _ (nth_mem hk)] at h; cases h
theorem plE_small {x : Int} (h : plE x = true) (hr : -1000000 ≤ x ∧ x ≤ 1000000) : -99 ≤ x ∧ x ≤ 99 := by
  unfold plE absW at h
  rw [W_in (by omega) (by omega)] at h
  simp at h
  split at h <;> omega
theorem plB_bd {a b : List Int} (h : plB [a, b] = true) (ha : ∀ i, -1000000 ≤ nth a i ∧ nth a i ≤ 1000000) (hb : ∀ i, -1000000 ≤ nth b i ∧ nth b i ≤ 1000000) : Bd a 99 ∧ Bd b 99 := by
  unfold plB at h
  simp only [Bool.and_eq_true, List.all_cons, List.all_nil, Bool.and_true, rowB] at h
  have key : ∀ {c : List Int}, c.all plE = true → (∀ i, -1000000 ≤ nth c i ∧ nth c i ≤ 1000000) → Bd c 99 := fun {c} hc hr i => by
    by_cases hi : i < c.length
    · exact plE_small (List.all_eq_true.1 hc _ (nth_mem hi)) (hr i)
    · rw [nth_beyond (by omega)]; omega
  exact ⟨key h.2.1.2 ha, key h.2.2.2 hb⟩


theorem plE_of {x : Int} (h : 99 < absW x → 1000000 < absW x) : plE x = true := by
  unfold plE; simp; omega
theorem plE_not {x : Int} (h : 99 < absW x ∧ absW x ≤ 1000000) : plE x = false := by
  unfold plE; simp; exact h
theorem ct_hPushG (o : Ori) (s : ByteArray) (c : List Int) (v : Valid o) (hs : s.size ≤ 20) (hw : (bs s).all isLet = true) (hc : chkC o.1.length c = 0) : Ct Tryd.prog 13 [kRd eO o, kS s, kRd (eL eI) c] (kTup [kRd eO (pO (bs s) o), kRd (eL eI) (pC (bs s) o c), kI 0]) := by
  have := ct_hPush o s c (by omega)
  have e : orE (chkO o) (orE (chkC o.1.length c) (chkW (bs s))) = 0 := by rw [orE_r (chkO_of v), orE_r hc]; unfold chkW; rw [if_neg (by rw [bs_len]; omega), if_pos hw]
  rwa [if_pos e, if_pos e, e] at this
theorem ct_hIntG (o : Ori) (a b : List Int) (v : Valid o) (ha : Cyc o a) (hb : Cyc o b) : Ct Tryd.prog 27 [kRd eO o, kRd (eL eI) a, kRd (eL eI) b] (kTup [kI (W (isI o a b)), kI 0]) := by
  have := ct_hIntersect o a b
  have e : orE (chkO o) (orE (chkZ o a) (chkZ o b)) = 0 := by rw [orE_r (chkO_of v), orE_r ((chkZ_cyc v).2 ha), (chkZ_cyc v).2 hb]
  rwa [if_pos e, e] at this
theorem ct_hBouG (o : Ori) (c : List Int) (v : Valid o) (hc : chkC o.1.length c = 0) : Ct Tryd.prog 36 [kRd eO o, kRd (eL eI) c] (kTup [kRd (eL eI) (if bdB o c = true then bdX o c else []), kB (bdB o c), kI 0]) := by
  have := ct_hBounds o c
  have e : orE (chkO o) (chkC o.1.length c) = 0 := by rw [orE_r (chkO_of v), hc]
  simpa [e] using this
theorem ct_hHolG (o : Ori) (c : List Int) (v : Valid o) (hc : chkC o.1.length c = 0) : Ct Tryd.prog 12 [kRd eO o, kRd (eL eI) c] (kTup [kI (W (hX o c)), kI (W (hY o c)), kI 0]) := by
  have := ct_hHolonomy o c
  have e : orE (chkO o) (chkC o.1.length c) = 0 := by rw [orE_r (chkO_of v), hc]
  rw [if_pos e, if_pos e, e, holX_W, holY_W] at this
  exact this
theorem cyc_chkC {o : Ori} (v : Valid o) {c : List Int} (h : Cyc o c) : chkC o.1.length c = 0 := (orE_zero.1 ((chkZ_cyc v).2 h)).1
theorem xor_let {x : Int} (hx : isLet x = true) : IntKind.u8.wrap ((BitVec.ofInt IntKind.u8.bits x ^^^ BitVec.ofInt IntKind.u8.bits 32).toNat) = invx x := by
  rcases isLet_cases hx with rfl | rfl | rfl | rfl <;> decide
theorem iw_rng {ws : List Int} : ∀ x ∈ iw ws, 0 ≤ x ∧ x < 256 := fun x hx => by
  unfold iw at hx
  rw [List.mem_reverse] at hx
  obtain ⟨y, _, rfl⟩ := List.mem_map.1 hx
  unfold invx; (repeat' split) <;> omega
theorem iw_let {ws : List Int} : (iw ws).all isLet = true := List.all_eq_true.2 fun x hx => by
  unfold iw at hx
  rw [List.mem_reverse] at hx
  obtain ⟨y, _, rfl⟩ := List.mem_map.1 hx
  unfold invx; (repeat' split) <;> rfl
theorem iw_len {ws : List Int} : (iw ws).length = ws.length := by unfold iw; simp
theorem hW_next {ws : List Int} {j : Nat} {x : Int} {q : Int × Int} (h : ws.drop (j - 1) = x :: ws.drop j) : hW (ws.drop (j - 1)) q = (stX x (hW (ws.drop j) q).1 (hW (ws.drop j) q).2, stY x (hW (ws.drop j) q).1 (hW (ws.drop j) q).2) := by rw [h]; rfl

set_option maxRecDepth 100000 in
theorem ct_AbsW (n : Int) : Ct Tryd.prog 26 [kI n] (kI (absW n)) := by
  refine Ct.mk Tryd.func26 rfl Tryd.ntmps26 rfl (fun w J => ?_)
  refine Tr.seq ?_
  refine Tr.rg ?_
  refine TrL.op (ok_assign rfl (fun _ => rfl)) rfl rfl ?_
  refine TrL.fin ?_
  refine End.nxt ?_
  refine Tr.seq ?_
  refine Tr.seq ?_
  refine Tr.rg ?_
  refine TrL.op (ok_move rfl (fun _ => rfl)) rfl rfl ?_
  refine TrL.op (ok_lss rfl (fun _ => rfl) rfl (fun _ => rfl)) rfl rfl ?_
  refine TrL.fin ?_
  refine End.nxt ?_
  refine Tr.cnd rfl ?_ ?_
  · intro h1
    replace h1 := of_decide_eq_true h1
    refine Tr.seq ?_
    refine Tr.rg ?_
    refine TrL.op (ok_move rfl (fun _ => rfl)) rfl rfl ?_
    refine TrL.op (ok_negW rfl (fun _ => rfl)) rfl rfl ?_
    refine TrL.op (ok_assign rfl (fun _ => rfl)) rfl rfl ?_
    refine TrL.fin ?_
    refine End.nxt ?_
    refine Tr.ret ?_
    refine Rts.thn ?_
    exact Rts.res1 (fn := Tryd.f26) rfl (.i rfl (by unfold absW; rw [if_pos h1]) <| .nil)
  · intro h1
    replace h1 := Int.not_lt.1 (of_decide_eq_false h1)
    refine Tr.skip ?_
    refine End.nxt ?_
    refine Tr.seq ?_
    refine Tr.rg ?_
    refine TrL.op (ok_move rfl (fun _ => rfl)) rfl rfl ?_
    refine TrL.op (ok_assign rfl (fun _ => rfl)) rfl rfl ?_
    refine TrL.fin ?_
    refine End.nxt ?_
    refine Tr.ret ?_
    exact Rts.res1 (fn := Tryd.f26) rfl (.i rfl (by unfold absW; rw [if_neg (by omega)]) <| .nil)

set_option maxRecDepth 100000 in
theorem ct_plain (b : List (List Int)) : Ct Tryd.prog 35 [kRd (eL (eL eI)) b] (kB (plB b)) := by
  refine Ct.mk Tryd.func35 rfl Tryd.ntmps35 rfl (fun w J => ?_)
  refine Tr.seq ?_
  refine Tr.rg ?_
  refine TrL.op (ok_assign rfl (fun _ => rfl)) rfl rfl ?_
  refine TrL.fin ?_
  refine End.nxt ?_
  refine Tr.seq ?_
  refine Tr.seq ?_
  refine Tr.rg ?_
  refine TrL.op (ok_move rfl (fun _ => rfl)) rfl rfl ?_
  refine TrL.op (ok_lenJ rfl (fun _ => rfl)) rfl rfl ?_
  refine TrL.op (ok_gtr rfl (fun _ => rfl) rfl (fun _ => rfl)) rfl rfl ?_
  refine TrL.op (ok_move rfl (fun _ => rfl)) rfl rfl ?_
  refine TrL.gd rfl rfl rfl (ok_move rfl (fun _ => rfl)) rfl rfl ?_
  refine TrL.gd rfl rfl rfl (ok_lenJ rfl id) rfl rfl ?_
  refine TrL.gd rfl rfl rfl (ok_leq rfl id rfl (fun _ => rfl)) rfl rfl ?_
  refine TrL.op (ok_and rfl (fun _ => rfl) rfl (fun hp h => gdT2 ((fun _ => rfl) hp) h)) rfl rfl ?_
  refine TrL.op (ok_move rfl (fun _ => rfl)) rfl rfl ?_
  refine TrL.gd rfl rfl rfl (ok_move rfl (fun _ => rfl)) rfl rfl ?_
  refine TrL.gd rfl rfl rfl (ok_lenJ rfl id) rfl rfl ?_
  refine TrL.gd rfl rfl rfl (ok_gtr rfl id rfl (fun _ => rfl)) rfl rfl ?_
  refine TrL.op (ok_or rfl (fun _ => rfl) rfl (fun hp h => gdF2 ((fun _ => rfl) hp) h)) rfl rfl ?_
  refine TrL.fin ?_
  refine End.nxt ?_
  refine Tr.cnd rfl ?_ ?_
  · intro h1
    try simp only [decide_eq_true_eq, Bool.and_eq_true, Bool.or_eq_true] at h1
    refine Tr.seq ?_
    refine Tr.rg ?_
    refine TrL.op (ok_assign rfl (fun _ => rfl)) rfl rfl ?_
    refine TrL.fin ?_
    refine End.nxt ?_
    refine Tr.ret ?_
    refine Rts.thn ?_
    exact Rts.res1 (fn := Tryd.f35) rfl (.b rfl (by unfold plB; rw [decide_eq_false (by omega), Bool.false_and]) <| .nil)
  · intro h1
    try simp only [decide_eq_true_eq, decide_eq_false_iff_not, Bool.and_eq_false_imp, Bool.or_eq_false_iff, Int.not_lt, Int.not_le] at h1
    refine Tr.skip ?_
    refine End.nxt ?_
    refine Tr.seq ?_
    refine Tr.seq ?_
    refine Tr.rg ?_
    refine TrL.op (ok_assign rfl (fun _ => rfl)) rfl rfl ?_
    refine TrL.fin ?_
    refine End.nxt ?_
    refine Tr.for1 (σ := Nat) [⟨0, true, _, _⟩] [] (fun k => [⟨3, true, [], kI (k : Int)⟩]) (fun k => []) (fun k => k ≤ b.length ∧ ∀ i, i < k → rowB (nth b i) = true) (fun k => ∀ i, i < b.length → rowB (nth b i) = true) (fun k => b.length - k) (0) ⟨Nat.zero_le _, fun i h => absurd h (by omega)⟩ (Ent.mk (.i rfl (by first | rfl | omega | (simp; done) | (simp; omega) | assumption) <| .k rfl rfl <| .nil) (.nil) rfl) ?_ ?_
    · rintro k ⟨hk0, hR0⟩
      refine Tr.norm (S' := [⟨3, true, _, _⟩, ⟨0, true, _, _⟩]) (M' := []) rfl rfl ?_
      refine Tr.seq ?_
      refine Tr.seq ?_
      refine Tr.rg ?_
      refine TrL.op (ok_move rfl (fun _ => rfl)) rfl rfl ?_
      refine TrL.op (ok_move rfl (fun _ => rfl)) rfl rfl ?_
      refine TrL.op (ok_lenJ rfl (fun _ => rfl)) rfl rfl ?_
      refine TrL.op (ok_lss rfl (fun _ => rfl) rfl (fun _ => rfl)) rfl rfl ?_
      refine TrL.fin ?_
      refine End.nxt ?_
      refine Tr.cnd rfl ?_ ?_
      · intro h4
        replace h4 := of_decide_eq_true h4
        refine Tr.skip ?_
        refine End.nxt ?_
        refine Tr.seq ?_
        refine Tr.blk ?_
        refine Tr.seq ?_
        refine Tr.seq ?_
        refine Tr.rg ?_
        refine TrL.op (ok_move rfl (fun _ => rfl)) rfl rfl ?_
        refine TrL.op (ok_move rfl (fun _ => rfl)) rfl rfl ?_
        first | refine TrL.op (ok_idxN rfl (fun _ => rfl) rfl (fun _ => rfl) rfl (fun _ => by omega)) rfl rfl ?_ | refine TrL.op (ok_idxP rfl (fun _ => rfl) rfl (fun _ => rfl) rfl (fun _ => by omega)) rfl rfl ?_
        refine TrL.op (ok_ldP rfl (fun _ => rfl) rfl) rfl rfl ?_
        refine TrL.op (ok_call (fun hp => ct_short _) (.a rfl (fun _ => rfl) <| .nil)) rfl rfl ?_
        refine TrL.op (ok_not rfl (fun _ => rfl)) rfl rfl ?_
        refine TrL.fin ?_
        refine End.nxt ?_
        refine Tr.cnd rfl ?_ ?_
        · intro h6
          try simp only [decide_eq_false_iff_not, Bool.not_eq_true', Nat.not_le] at h6
          refine Tr.seq ?_
          refine Tr.rg ?_
          refine TrL.op (ok_assign rfl (fun _ => rfl)) rfl rfl ?_
          refine TrL.fin ?_
          refine End.nxt ?_
          refine Tr.ret ?_
          refine Rts.thn ?_
          refine Rts.out ?_
          refine Rts.thn ?_
          refine Rts.thn ?_
          refine Rts.out ?_
          refine Rts.thn ?_
          refine Rts.thn ?_
          exact Rts.res1 (fn := Tryd.f35) rfl (.b rfl (by unfold plB; rw [all_not (k := k) (by omega) (by unfold rowB; rw [decide_eq_false (by omega), Bool.false_and]), Bool.and_false]) <| .nil)
        · intro h6
          try simp only [decide_eq_true_eq, Bool.not_eq_false'] at h6
          refine Tr.skip ?_
          refine End.nxt ?_
          refine Tr.seq ?_
          refine Tr.rg ?_
          refine TrL.op (ok_assign rfl (fun _ => rfl)) rfl rfl ?_
          refine TrL.fin ?_
          refine End.nxt ?_
          refine Tr.for1 (σ := Nat) [⟨0, true, _, _⟩, ⟨3, true, _, _⟩] [] (fun j => [⟨4, true, [], kI (j : Int)⟩]) (fun j => []) (fun j => j ≤ (nth b k).length ∧ ∀ i, i < j → plE (nth (nth b k) i) = true) (fun j => ∀ i, i < (nth b k).length → plE (nth (nth b k) i) = true) (fun j => (nth b k).length - j) (0) ⟨Nat.zero_le _, fun i h => absurd h (by omega)⟩ (Ent.mk (.i rfl (by first | rfl | omega | (simp; done) | (simp; omega) | assumption) <| .k rfl rfl <| .k rfl rfl <| .nil) (.nil) rfl) ?_ ?_
          · rintro j ⟨hk1, hR1⟩
            refine Tr.norm (S' := [⟨4, true, _, _⟩, ⟨0, true, _, _⟩, ⟨3, true, _, _⟩]) (M' := []) rfl rfl ?_
            refine Tr.seq ?_
            refine Tr.seq ?_
            refine Tr.rg ?_
            refine TrL.op (ok_move rfl (fun _ => rfl)) rfl rfl ?_
            refine TrL.op (ok_move rfl (fun _ => rfl)) rfl rfl ?_
            refine TrL.op (ok_move rfl (fun _ => rfl)) rfl rfl ?_
            first | refine TrL.op (ok_idxN rfl (fun _ => rfl) rfl (fun _ => rfl) rfl (fun _ => by omega)) rfl rfl ?_ | refine TrL.op (ok_idxP rfl (fun _ => rfl) rfl (fun _ => rfl) rfl (fun _ => by omega)) rfl rfl ?_
            refine TrL.op (ok_ldP rfl (fun _ => rfl) rfl) rfl rfl ?_
            refine TrL.op (ok_lenJ rfl (fun _ => rfl)) rfl rfl ?_
            refine TrL.op (ok_lss rfl (fun _ => rfl) rfl (fun _ => rfl)) rfl rfl ?_
            refine TrL.fin ?_
            refine End.nxt ?_
            refine Tr.cnd rfl ?_ ?_
            · intro h9
              replace h9 := of_decide_eq_true h9
              refine Tr.skip ?_
              refine End.nxt ?_
              refine Tr.seq ?_
              refine Tr.blk ?_
              refine Tr.seq ?_
              refine Tr.rg ?_
              refine TrL.op (ok_move rfl (fun _ => rfl)) rfl rfl ?_
              refine TrL.op (ok_move rfl (fun _ => rfl)) rfl rfl ?_
              first | refine TrL.op (ok_idxN rfl (fun _ => rfl) rfl (fun _ => rfl) rfl (fun _ => by omega)) rfl rfl ?_ | refine TrL.op (ok_idxP rfl (fun _ => rfl) rfl (fun _ => rfl) rfl (fun _ => by omega)) rfl rfl ?_
              refine TrL.op (ok_ldP rfl (fun _ => rfl) rfl) rfl rfl ?_
              refine TrL.op (ok_move rfl (fun _ => rfl)) rfl rfl ?_
              first | refine TrL.op (ok_idxN rfl (fun _ => rfl) rfl (fun _ => rfl) rfl (fun _ => by omega)) rfl rfl ?_ | refine TrL.op (ok_idxP rfl (fun _ => rfl) rfl (fun _ => rfl) rfl (fun _ => by omega)) rfl rfl ?_
              refine TrL.op (ok_ldP rfl (fun _ => rfl) rfl) rfl rfl ?_
              refine TrL.op (ok_call (fun hp => ct_AbsW _) (.a rfl (fun _ => rfl) <| .nil)) rfl rfl ?_
              refine TrL.op (ok_gtr rfl (fun _ => rfl) rfl (fun _ => rfl)) rfl rfl ?_
              refine TrL.op (ok_move rfl (fun _ => rfl)) rfl rfl ?_
              refine TrL.gd rfl rfl rfl (ok_move rfl (fun _ => rfl)) rfl rfl ?_
              refine TrL.gd rfl rfl rfl (ok_move rfl (fun _ => rfl)) rfl rfl ?_
              first | refine TrL.gd rfl rfl rfl (ok_idxN rfl id rfl id rfl (fun hp => by simp at hp; omega)) rfl rfl ?_ | refine TrL.gd rfl rfl rfl (ok_idxP rfl id rfl id rfl (fun hp => by simp at hp; omega)) rfl rfl ?_
              refine TrL.gd rfl rfl rfl (ok_ldP rfl id rfl) rfl rfl ?_
              refine TrL.gd rfl rfl rfl (ok_move rfl (fun _ => rfl)) rfl rfl ?_
              first | refine TrL.gd rfl rfl rfl (ok_idxN rfl id rfl id rfl (fun hp => by simp at hp; omega)) rfl rfl ?_ | refine TrL.gd rfl rfl rfl (ok_idxP rfl id rfl id rfl (fun hp => by simp at hp; omega)) rfl rfl ?_
              refine TrL.gd rfl rfl rfl (ok_ldP rfl id rfl) rfl rfl ?_
              refine TrL.gd rfl rfl rfl (ok_call (fun hp => ct_AbsW _) (.a rfl id <| .nil)) rfl rfl ?_
              refine TrL.gd rfl rfl rfl (ok_leq rfl id rfl (fun _ => rfl)) rfl rfl ?_
              refine TrL.op (ok_and rfl (fun _ => rfl) rfl (fun hp h => gdT2 ((fun _ => rfl) hp) h)) rfl rfl ?_
              refine TrL.fin ?_
              refine End.nxt ?_
              refine Tr.cnd rfl ?_ ?_
              · intro h11
                try simp only [decide_eq_true_eq, Bool.and_eq_true] at h11
                refine Tr.seq ?_
                refine Tr.rg ?_
                refine TrL.op (ok_assign rfl (fun _ => rfl)) rfl rfl ?_
                refine TrL.fin ?_
                refine End.nxt ?_
                refine Tr.ret ?_
                refine Rts.out ?_
                refine Rts.thn ?_
                refine Rts.thn ?_
                refine Rts.out ?_
                refine Rts.thn ?_
                refine Rts.out ?_
                refine Rts.thn ?_
                refine Rts.thn ?_
                refine Rts.out ?_
                refine Rts.thn ?_
                refine Rts.thn ?_
                exact Rts.res1 (fn := Tryd.f35) rfl (.b rfl (by unfold plB; rw [all_not (k := k) (by omega) (by unfold rowB; rw [all_not (k := j) (by omega) (plE_not h11), Bool.and_false]), Bool.and_false]) <| .nil)
              · intro h11
                try simp only [decide_eq_true_eq, decide_eq_false_iff_not, Bool.and_eq_false_imp, Int.not_le] at h11
                refine Tr.skip ?_
                refine End.blk ?_
                refine End.nxt ?_
                refine Tr.rg ?_
                refine TrL.op (ok_move rfl (fun _ => rfl)) rfl rfl ?_
                refine TrL.op (ok_add rfl (fun _ => rfl) rfl (fun _ => rfl) (fun _ => by omega)) rfl rfl ?_
                refine TrL.op (ok_assign rfl (fun _ => rfl)) rfl rfl ?_
                refine TrL.fin ?_
                exact End.lp (j + 1) ⟨by omega, all_succ hR1 (plE_of h11)⟩ (by omega) (Ent.mk (.i rfl (by first | rfl | omega | (simp; done) | (simp; omega) | assumption) <| .k rfl rfl <| .k rfl rfl <| .nil) (.nil) rfl)
            · intro h9
              replace h9 := Int.not_lt.1 (of_decide_eq_false h9)
              refine Tr.exit ?_
              refine Exs.thn ?_
              refine Exs.thn ?_
              refine Exs.here ?_
              exact End.cut (j) (fun i hi => hR1 i (by omega)) (Ent.mk (.i rfl (by first | rfl | omega | (simp; done) | (simp; omega) | assumption) <| .k rfl rfl <| .k rfl rfl <| .nil) (.nil) rfl)
          · intro j hE1
            refine End.norm (S' := [⟨4, true, _, _⟩, ⟨0, true, _, _⟩, ⟨3, true, _, _⟩]) (M' := []) rfl rfl ?_
            refine End.blk ?_
            refine End.nxt ?_
            refine Tr.rg ?_
            refine TrL.op (ok_move rfl (fun _ => rfl)) rfl rfl ?_
            refine TrL.op (ok_add rfl (fun _ => rfl) rfl (fun _ => rfl) (fun _ => by omega)) rfl rfl ?_
            refine TrL.op (ok_assign rfl (fun _ => rfl)) rfl rfl ?_
            refine TrL.fin ?_
            exact End.lp (k + 1) ⟨by omega, all_succ hR0 (by unfold rowB; rw [decide_eq_true (by omega), Bool.true_and]; exact all_nth (fun i hi => hE1 i (by omega)))⟩ (by omega) (Ent.mk (.i rfl (by first | rfl | omega | (simp; done) | (simp; omega) | assumption) <| .k rfl rfl <| .nil) (.nil) rfl)
      · intro h4
        replace h4 := Int.not_lt.1 (of_decide_eq_false h4)
        refine Tr.exit ?_
        refine Exs.thn ?_
        refine Exs.thn ?_
        refine Exs.here ?_
        exact End.cut (k) (fun i hi => hR0 i (by omega)) (Ent.mk (.i rfl (by first | rfl | omega | (simp; done) | (simp; omega) | assumption) <| .k rfl rfl <| .nil) (.nil) rfl)
    · intro k hE0
      refine End.norm (S' := [⟨3, true, _, _⟩, ⟨0, true, _, _⟩]) (M' := []) rfl rfl ?_
      refine End.nxt ?_
      refine Tr.seq ?_
      refine Tr.rg ?_
      refine TrL.op (ok_assign rfl (fun _ => rfl)) rfl rfl ?_
      refine TrL.fin ?_
      refine End.nxt ?_
      refine Tr.ret ?_
      exact Rts.res1 (fn := Tryd.f35) rfl (.b rfl (by unfold plB; rw [decide_eq_true (by omega), Bool.true_and]; exact (all_nth (fun i hi => hE0 i (by omega))).symm) <| .nil)

set_option maxRecDepth 100000 in
set_option maxHeartbeats 1000000 in
theorem ct_HomologyActs (o : Ori) (s : ByteArray) (p : PairT) : Ct Tryd.prog 7 [kRd eO o, kS s, kRd ePair p] (kB true) := by
  have hbl := bs_len (s := s)
  refine Ct.mk Tryd.func7 rfl Tryd.ntmps7 rfl (fun w J => ?_)
  refine Tr.seq ?_
  refine Tr.rg ?_
  refine TrL.new (ok_box 3 rfl (fun _ => rfl) rfl) rfl rfl rfl rfl ?_
  refine TrL.new (ok_box 5 rfl (fun _ => rfl) rfl) rfl rfl rfl rfl ?_
  refine TrL.op (ok_assign rfl (fun _ => rfl)) rfl rfl ?_
  refine TrL.fin ?_
  refine End.nxt ?_
  refine Tr.seq ?_
  refine Tr.seq ?_
  refine Tr.rg ?_
  refine TrL.op (ok_call (fun hp => ct_awake) (.nil)) rfl rfl ?_
  refine TrL.op (ok_not rfl (fun _ => rfl)) rfl rfl ?_
  refine TrL.fin ?_
  refine End.nxt ?_
  refine Tr.cnd rfl ?_ ?_
  · intro h1
    simp at h1
  · intro h1
    refine Tr.skip ?_
    refine End.nxt ?_
    refine Tr.seq ?_
    refine Tr.seq ?_
    refine Tr.rg ?_
    refine TrL.op (ok_ldBS rfl (fun _ => rfl)) rfl rfl ?_
    refine TrL.op (ok_call (fun hp => ct_Small _) (.s rfl (fun _ => rfl) rfl <| .nil)) rfl rfl ?_
    refine TrL.op (ok_not rfl (fun _ => rfl)) rfl rfl ?_
    refine TrL.op (ok_move rfl (fun _ => rfl)) rfl rfl ?_
    refine TrL.gd rfl rfl rfl (ok_move rfl (fun _ => rfl)) rfl rfl ?_
    refine TrL.gd rfl rfl rfl (ok_lenS rfl id) rfl rfl ?_
    refine TrL.gd rfl rfl rfl (ok_gtr rfl id rfl (fun _ => rfl)) rfl rfl ?_
    refine TrL.op (ok_or rfl (fun _ => rfl) rfl (fun hp h => gdF2 ((fun _ => rfl) hp) h)) rfl rfl ?_
    refine TrL.op (ok_move rfl (fun _ => rfl)) rfl rfl ?_
    refine TrL.gd rfl rfl rfl (ok_move rfl (fun _ => rfl)) rfl rfl ?_
    refine TrL.gd rfl rfl rfl (ok_call (fun hp => ct_rCheckWord _) (.a rfl id <| .nil)) rfl rfl ?_
    refine TrL.gd rfl rfl rfl (ok_neq rfl id rfl (fun _ => rfl)) rfl rfl ?_
    refine TrL.op (ok_or rfl (fun _ => rfl) rfl (fun hp h => gdF2 ((fun _ => rfl) hp) h)) rfl rfl ?_
    refine TrL.op (ok_move rfl (fun _ => rfl)) rfl rfl ?_
    refine TrL.gd rfl rfl rfl (ok_fldO rfl (fun _ => rfl)) rfl rfl ?_
    refine TrL.gd rfl rfl rfl (ok_ldB rfl id rfl) rfl rfl ?_
    refine TrL.gd rfl rfl rfl (ok_fldO rfl (fun _ => rfl)) rfl rfl ?_
    refine TrL.gd rfl rfl rfl (ok_ldB rfl id rfl) rfl rfl ?_
    refine TrL.gd rfl rfl rfl (ok_bslJ (eL eI) (fun hp => .consG rfl (id hp) <| .consG rfl (id hp) <| .nil) rfl rfl rfl rfl) rfl rfl ?_
    refine TrL.gd rfl rfl rfl (ok_call (fun hp => ct_plain _) (.a rfl id <| .nil)) rfl rfl ?_
    refine TrL.gd rfl rfl rfl (ok_not rfl id) rfl rfl ?_
    refine TrL.op (ok_or rfl (fun _ => rfl) rfl (fun hp h => gdF2 ((fun _ => rfl) hp) h)) rfl rfl ?_
    refine TrL.op (ok_move rfl (fun _ => rfl)) rfl rfl ?_
    refine TrL.gd rfl rfl rfl (ok_ldBS rfl (fun _ => rfl)) rfl rfl ?_
    refine TrL.gd rfl rfl rfl (ok_fldO rfl (fun _ => rfl)) rfl rfl ?_
    refine TrL.gd rfl rfl rfl (ok_ldB rfl id rfl) rfl rfl ?_
    refine TrL.gd rfl rfl rfl (ok_fldO rfl (fun _ => rfl)) rfl rfl ?_
    refine TrL.gd rfl rfl rfl (ok_ldB rfl id rfl) rfl rfl ?_
    refine TrL.gd rfl rfl rfl (ok_bslJ (eL eI) (fun hp => .consG rfl (id hp) <| .consG rfl (id hp) <| .nil) rfl rfl rfl rfl) rfl rfl ?_
    refine TrL.gd rfl rfl rfl (ok_call (fun hp => ct_lcycles _ _) (.s rfl id rfl <| .a rfl id <| .nil)) rfl rfl ?_
    refine TrL.gd rfl rfl rfl (ok_neq rfl id rfl (fun _ => rfl)) rfl rfl ?_
    refine TrL.op (ok_or rfl (fun _ => rfl) rfl (fun hp h => gdF2 ((fun _ => rfl) hp) h)) rfl rfl ?_
    refine TrL.fin ?_
    refine End.nxt ?_
    refine Tr.cnd rfl ?_ ?_
    · intro h3
      try simp only [decide_eq_true_eq, Bool.or_eq_true, Bool.not_eq_true', ne_eq] at h3
      refine Tr.seq ?_
      refine Tr.rg ?_
      refine TrL.op (ok_assign rfl (fun _ => rfl)) rfl rfl ?_
      refine TrL.fin ?_
      refine End.nxt ?_
      refine Tr.ret ?_
      refine Rts.thn ?_
      exact Rts.res1 (fn := Tryd.f7) rfl (.b rfl (by rfl) <| .nil)
    · intro h3
      try simp only [decide_eq_false_iff_not, Bool.not_eq_false', Bool.or_eq_false_iff, Int.not_lt, ne_eq, Classical.not_not] at h3
      rw [chk2] at h3
      obtain ⟨⟨⟨⟨hsm, hl6⟩, hcw⟩, hpl⟩, hz⟩ := h3
      have v : Valid o := valid_of (orE_zero.1 hz).1
      have cA := (chkZ_cyc v).1 (orE_zero.1 (orE_zero.1 hz).2).1
      have cB := (chkZ_cyc v).1 (orE_zero.1 (orE_zero.1 hz).2).2
      have hw := (chkW_zero hcw).2
      obtain ⟨bA, bB⟩ := plB_bd hpl cA.rng cB.rng
      have hl6b : (bs s).length ≤ 6 := by omega
      have v2 := (pO_valid v (bs s)).1
      have cA2 := word_cyc v bA cA hw hl6b
      have cB2 := word_cyc v bB cB hw hl6b
      have eI2 := word_isI v bA bB cA cB hw hl6b
      obtain ⟨eB, eH, eO2, eC2⟩ := word_all v bA cA hw hl6b
      have hcA := cyc_chkC v cA
      have hcB := cyc_chkC v cB
      have hcA2 := cyc_chkC v2 cA2
      refine Tr.skip ?_
      refine End.nxt ?_
      refine Tr.seq ?_
      refine Tr.rg ?_
      refine TrL.op (ok_ldBS rfl (fun _ => rfl)) rfl rfl ?_
      refine TrL.op (ok_move rfl (fun _ => rfl)) rfl rfl ?_
      refine TrL.op (ok_fldO rfl (fun _ => rfl)) rfl rfl ?_
      refine TrL.op (ok_ldB rfl (fun _ => rfl) rfl) rfl rfl ?_
      refine TrL.op (ok_call (fun hp => ct_hPushG _ _ _ v (by omega) hw hcA) (.s rfl (fun _ => rfl) rfl <| .a rfl (fun _ => rfl) <| .a rfl (fun _ => rfl) <| .nil)) rfl rfl ?_
      refine TrL.op (ok_move rfl (fun _ => rfl)) rfl rfl ?_
      refine TrL.op (ok_ext rfl (fun _ => rfl) rfl) rfl rfl ?_
      refine TrL.op (ok_ext rfl (fun _ => rfl) rfl) rfl rfl ?_
      refine TrL.op (ok_ext rfl (fun _ => rfl) rfl) rfl rfl ?_
      refine TrL.new (ok_alloc 7) rfl rfl rfl rfl ?_
      refine TrL.stB rfl rfl rfl rfl ?_
      refine TrL.op (ok_assign rfl (fun _ => rfl)) rfl rfl ?_
      refine TrL.op (ok_assign rfl (fun _ => rfl)) rfl rfl ?_
      refine TrL.fin ?_
      refine End.nxt ?_
      refine Tr.seq ?_
      refine Tr.rg ?_
      refine TrL.op (ok_ldBS rfl (fun _ => rfl)) rfl rfl ?_
      refine TrL.op (ok_move rfl (fun _ => rfl)) rfl rfl ?_
      refine TrL.op (ok_fldO rfl (fun _ => rfl)) rfl rfl ?_
      refine TrL.op (ok_ldB rfl (fun _ => rfl) rfl) rfl rfl ?_
      refine TrL.op (ok_call (fun hp => ct_hPushG _ _ _ v (by omega) hw hcB) (.s rfl (fun _ => rfl) rfl <| .a rfl (fun _ => rfl) <| .a rfl (fun _ => rfl) <| .nil)) rfl rfl ?_
      refine TrL.op (ok_move rfl (fun _ => rfl)) rfl rfl ?_
      refine TrL.op (ok_ext rfl (fun _ => rfl) rfl) rfl rfl ?_
      refine TrL.op (ok_ext rfl (fun _ => rfl) rfl) rfl rfl ?_
      refine TrL.op (ok_ext rfl (fun _ => rfl) rfl) rfl rfl ?_
      refine TrL.new (ok_alloc 10) rfl rfl rfl rfl ?_
      refine TrL.stB rfl rfl rfl rfl ?_
      refine TrL.op (ok_assign rfl (fun _ => rfl)) rfl rfl ?_
      refine TrL.op (ok_assign rfl (fun _ => rfl)) rfl rfl ?_
      refine TrL.fin ?_
      refine End.nxt ?_
      refine Tr.seq ?_
      refine Tr.rg ?_
      refine TrL.op (ok_ldBS rfl (fun _ => rfl)) rfl rfl ?_
      refine TrL.op (ok_fldO rfl (fun _ => rfl)) rfl rfl ?_
      refine TrL.op (ok_ldB rfl (fun _ => rfl) rfl) rfl rfl ?_
      refine TrL.op (ok_fldO rfl (fun _ => rfl)) rfl rfl ?_
      refine TrL.op (ok_ldB rfl (fun _ => rfl) rfl) rfl rfl ?_
      refine TrL.op (ok_call (fun hp => ct_hIntG _ _ _ v cA cB) (.s rfl (fun _ => rfl) rfl <| .a rfl (fun _ => rfl) <| .a rfl (fun _ => rfl) <| .nil)) rfl rfl ?_
      refine TrL.op (ok_move rfl (fun _ => rfl)) rfl rfl ?_
      refine TrL.op (ok_ext rfl (fun _ => rfl) rfl) rfl rfl ?_
      refine TrL.op (ok_ext rfl (fun _ => rfl) rfl) rfl rfl ?_
      refine TrL.op (ok_assign rfl (fun _ => rfl)) rfl rfl ?_
      refine TrL.op (ok_assign rfl (fun _ => rfl)) rfl rfl ?_
      refine TrL.fin ?_
      refine End.nxt ?_
      refine Tr.seq ?_
      refine Tr.rg ?_
      refine TrL.op (ok_ldBS rfl (fun _ => rfl)) rfl rfl ?_
      refine TrL.op (ok_move rfl (fun _ => rfl)) rfl rfl ?_
      refine TrL.op (ok_move rfl (fun _ => rfl)) rfl rfl ?_
      refine TrL.op (ok_call (fun hp => ct_hIntG _ _ _ v2 cA2 cB2) (.s rfl (fun _ => rfl) rfl <| .a rfl (fun _ => rfl) <| .a rfl (fun _ => rfl) <| .nil)) rfl rfl ?_
      refine TrL.op (ok_move rfl (fun _ => rfl)) rfl rfl ?_
      refine TrL.op (ok_ext rfl (fun _ => rfl) rfl) rfl rfl ?_
      refine TrL.op (ok_ext rfl (fun _ => rfl) rfl) rfl rfl ?_
      refine TrL.op (ok_assign rfl (fun _ => rfl)) rfl rfl ?_
      refine TrL.op (ok_assign rfl (fun _ => rfl)) rfl rfl ?_
      refine TrL.fin ?_
      refine End.nxt ?_
      refine Tr.seq ?_
      refine Tr.seq ?_
      refine Tr.rg ?_
      refine TrL.op (ok_move rfl (fun _ => rfl)) rfl rfl ?_
      refine TrL.op (ok_neq rfl (fun _ => rfl) rfl (fun _ => rfl)) rfl rfl ?_
      refine TrL.op (ok_move rfl (fun _ => rfl)) rfl rfl ?_
      refine TrL.gd rfl rfl rfl (ok_move rfl (fun _ => rfl)) rfl rfl ?_
      refine TrL.gd rfl rfl rfl (ok_neq rfl id rfl (fun _ => rfl)) rfl rfl ?_
      refine TrL.op (ok_or rfl (fun _ => rfl) rfl (fun hp h => gdF2 ((fun _ => rfl) hp) h)) rfl rfl ?_
      refine TrL.op (ok_move rfl (fun _ => rfl)) rfl rfl ?_
      refine TrL.gd rfl rfl rfl (ok_move rfl (fun _ => rfl)) rfl rfl ?_
      refine TrL.gd rfl rfl rfl (ok_neq rfl id rfl (fun _ => rfl)) rfl rfl ?_
      refine TrL.op (ok_or rfl (fun _ => rfl) rfl (fun hp h => gdF2 ((fun _ => rfl) hp) h)) rfl rfl ?_
      refine TrL.op (ok_move rfl (fun _ => rfl)) rfl rfl ?_
      refine TrL.gd rfl rfl rfl (ok_move rfl (fun _ => rfl)) rfl rfl ?_
      refine TrL.gd rfl rfl rfl (ok_neq rfl id rfl (fun _ => rfl)) rfl rfl ?_
      refine TrL.op (ok_or rfl (fun _ => rfl) rfl (fun hp h => gdF2 ((fun _ => rfl) hp) h)) rfl rfl ?_
      refine TrL.op (ok_move rfl (fun _ => rfl)) rfl rfl ?_
      refine TrL.gd rfl rfl rfl (ok_move rfl (fun _ => rfl)) rfl rfl ?_
      refine TrL.gd rfl rfl rfl (ok_move rfl (fun _ => rfl)) rfl rfl ?_
      refine TrL.gd rfl rfl rfl (ok_neq rfl id rfl id) rfl rfl ?_
      refine TrL.op (ok_or rfl (fun _ => rfl) rfl (fun hp h => gdF2 ((fun _ => rfl) hp) h)) rfl rfl ?_
      refine TrL.fin ?_
      refine End.nxt ?_
      refine Tr.cnd rfl ?_ ?_
      · intro h9
        try simp only [decide_eq_true_eq, Bool.or_eq_true, ne_eq] at h9
        simp [eI2] at h9
      · intro h9
        try simp only [decide_eq_false_iff_not, Bool.or_eq_false_iff, ne_eq, Classical.not_not] at h9
        refine Tr.skip ?_
        refine End.nxt ?_
        refine Tr.seq ?_
        refine Tr.rg ?_
        refine TrL.op (ok_ldBS rfl (fun _ => rfl)) rfl rfl ?_
        refine TrL.op (ok_fldO rfl (fun _ => rfl)) rfl rfl ?_
        refine TrL.op (ok_ldB rfl (fun _ => rfl) rfl) rfl rfl ?_
        refine TrL.op (ok_call (fun hp => ct_hBouG _ _ v hcA) (.s rfl (fun _ => rfl) rfl <| .a rfl (fun _ => rfl) <| .nil)) rfl rfl ?_
        refine TrL.op (ok_move rfl (fun _ => rfl)) rfl rfl ?_
        refine TrL.op (ok_ext rfl (fun _ => rfl) rfl) rfl rfl ?_
        refine TrL.op (ok_ext rfl (fun _ => rfl) rfl) rfl rfl ?_
        refine TrL.op (ok_ext rfl (fun _ => rfl) rfl) rfl rfl ?_
        refine TrL.op (ok_assign rfl (fun _ => rfl)) rfl rfl ?_
        refine TrL.op (ok_assign rfl (fun _ => rfl)) rfl rfl ?_
        refine TrL.op (ok_assign rfl (fun _ => rfl)) rfl rfl ?_
        refine TrL.fin ?_
        refine End.nxt ?_
        refine Tr.seq ?_
        refine Tr.rg ?_
        refine TrL.op (ok_ldBS rfl (fun _ => rfl)) rfl rfl ?_
        refine TrL.op (ok_move rfl (fun _ => rfl)) rfl rfl ?_
        refine TrL.op (ok_call (fun hp => ct_hBouG _ _ v2 hcA2) (.s rfl (fun _ => rfl) rfl <| .a rfl (fun _ => rfl) <| .nil)) rfl rfl ?_
        refine TrL.op (ok_move rfl (fun _ => rfl)) rfl rfl ?_
        refine TrL.op (ok_ext rfl (fun _ => rfl) rfl) rfl rfl ?_
        refine TrL.op (ok_ext rfl (fun _ => rfl) rfl) rfl rfl ?_
        refine TrL.op (ok_ext rfl (fun _ => rfl) rfl) rfl rfl ?_
        refine TrL.op (ok_assign rfl (fun _ => rfl)) rfl rfl ?_
        refine TrL.op (ok_assign rfl (fun _ => rfl)) rfl rfl ?_
        refine TrL.op (ok_assign rfl (fun _ => rfl)) rfl rfl ?_
        refine TrL.fin ?_
        refine End.nxt ?_
        refine Tr.seq ?_
        refine Tr.seq ?_
        refine Tr.rg ?_
        refine TrL.op (ok_move rfl (fun _ => rfl)) rfl rfl ?_
        refine TrL.op (ok_neq rfl (fun _ => rfl) rfl (fun _ => rfl)) rfl rfl ?_
        refine TrL.op (ok_move rfl (fun _ => rfl)) rfl rfl ?_
        refine TrL.gd rfl rfl rfl (ok_move rfl (fun _ => rfl)) rfl rfl ?_
        refine TrL.gd rfl rfl rfl (ok_neq rfl id rfl (fun _ => rfl)) rfl rfl ?_
        refine TrL.op (ok_or rfl (fun _ => rfl) rfl (fun hp h => gdF2 ((fun _ => rfl) hp) h)) rfl rfl ?_
        refine TrL.op (ok_move rfl (fun _ => rfl)) rfl rfl ?_
        refine TrL.gd rfl rfl rfl (ok_move rfl (fun _ => rfl)) rfl rfl ?_
        refine TrL.gd rfl rfl rfl (ok_move rfl (fun _ => rfl)) rfl rfl ?_
        refine TrL.gd rfl rfl rfl (ok_neqB rfl id rfl id) rfl rfl ?_
        refine TrL.op (ok_or rfl (fun _ => rfl) rfl (fun hp h => gdF2 ((fun _ => rfl) hp) h)) rfl rfl ?_
        refine TrL.fin ?_
        refine End.nxt ?_
        refine Tr.cnd rfl ?_ ?_
        · intro h13
          try simp only [decide_eq_true_eq, Bool.or_eq_true, ne_eq] at h13
          simp [eB] at h13
        · intro h13
          try simp only [decide_eq_false_iff_not, Bool.or_eq_false_iff, ne_eq, Classical.not_not] at h13
          refine Tr.skip ?_
          refine End.nxt ?_
          refine Tr.seq ?_
          refine Tr.rg ?_
          refine TrL.op (ok_ldBS rfl (fun _ => rfl)) rfl rfl ?_
          refine TrL.op (ok_fldO rfl (fun _ => rfl)) rfl rfl ?_
          refine TrL.op (ok_ldB rfl (fun _ => rfl) rfl) rfl rfl ?_
          refine TrL.op (ok_call (fun hp => ct_hHolG _ _ v hcA) (.s rfl (fun _ => rfl) rfl <| .a rfl (fun _ => rfl) <| .nil)) rfl rfl ?_
          refine TrL.op (ok_move rfl (fun _ => rfl)) rfl rfl ?_
          refine TrL.op (ok_ext rfl (fun _ => rfl) rfl) rfl rfl ?_
          refine TrL.op (ok_ext rfl (fun _ => rfl) rfl) rfl rfl ?_
          refine TrL.op (ok_ext rfl (fun _ => rfl) rfl) rfl rfl ?_
          refine TrL.op (ok_assign rfl (fun _ => rfl)) rfl rfl ?_
          refine TrL.op (ok_assign rfl (fun _ => rfl)) rfl rfl ?_
          refine TrL.op (ok_assign rfl (fun _ => rfl)) rfl rfl ?_
          refine TrL.fin ?_
          refine End.nxt ?_
          refine Tr.seq ?_
          refine Tr.rg ?_
          refine TrL.op (ok_ldBS rfl (fun _ => rfl)) rfl rfl ?_
          refine TrL.op (ok_move rfl (fun _ => rfl)) rfl rfl ?_
          refine TrL.op (ok_call (fun hp => ct_hHolG _ _ v2 hcA2) (.s rfl (fun _ => rfl) rfl <| .a rfl (fun _ => rfl) <| .nil)) rfl rfl ?_
          refine TrL.op (ok_move rfl (fun _ => rfl)) rfl rfl ?_
          refine TrL.op (ok_ext rfl (fun _ => rfl) rfl) rfl rfl ?_
          refine TrL.op (ok_ext rfl (fun _ => rfl) rfl) rfl rfl ?_
          refine TrL.op (ok_ext rfl (fun _ => rfl) rfl) rfl rfl ?_
          refine TrL.op (ok_assign rfl (fun _ => rfl)) rfl rfl ?_
          refine TrL.op (ok_assign rfl (fun _ => rfl)) rfl rfl ?_
          refine TrL.op (ok_assign rfl (fun _ => rfl)) rfl rfl ?_
          refine TrL.fin ?_
          refine End.nxt ?_
          refine Tr.seq ?_
          refine Tr.seq ?_
          refine Tr.rg ?_
          refine TrL.op (ok_move rfl (fun _ => rfl)) rfl rfl ?_
          refine TrL.op (ok_lenS rfl (fun _ => rfl)) rfl rfl ?_
          refine TrL.op (ok_sub rfl (fun _ => rfl) rfl (fun _ => rfl) (fun _ => by omega)) rfl rfl ?_
          refine TrL.op (ok_assign rfl (fun _ => rfl)) rfl rfl ?_
          refine TrL.fin ?_
          refine End.nxt ?_
          refine Tr.for1 (σ := Nat) [⟨1, true, _, _⟩, ⟨3, true, _, _⟩, ⟨5, true, _, _⟩, ⟨7, true, _, _⟩, ⟨8, true, _, _⟩, ⟨19, true, _, _⟩, ⟨22, true, _, _⟩, ⟨25, true, _, _⟩, ⟨26, true, _, _⟩] [⟨3, _, _⟩, ⟨5, _, _⟩, ⟨7, _, _⟩] (fun j => [⟨27, true, [], kI ((j : Int) - 1)⟩, ⟨23, true, [], kI (W (hW ((bs s).drop j) (hX o p.1, hY o p.1)).1)⟩, ⟨24, true, [], kI (W (hW ((bs s).drop j) (hX o p.1, hY o p.1)).2)⟩]) (fun j => []) (fun j => j ≤ (bs s).length) (fun j => j = 0) (fun j => j) ((bs s).length) (by first | rfl | omega | (simp; done) | (simp; omega) | assumption) (Ent.mk (.i rfl (by first | rfl | omega | (simp; done) | (simp; omega) | assumption) <| .i rfl (by rw [List.drop_length]; rfl) <| .i rfl (by rw [List.drop_length]; rfl) <| .k rfl rfl <| .k rfl rfl <| .k rfl rfl <| .k rfl rfl <| .k rfl rfl <| .k rfl rfl <| .k rfl rfl <| .k rfl rfl <| .k rfl rfl <| .nil) (.k rfl <| .k rfl <| .k rfl <| .nil) rfl) ?_ ?_
          · intro j hR0
            refine Tr.norm (S' := [⟨27, true, _, _⟩, ⟨23, true, _, _⟩, ⟨24, true, _, _⟩, ⟨1, true, _, _⟩, ⟨3, true, _, _⟩, ⟨5, true, _, _⟩, ⟨7, true, _, _⟩, ⟨8, true, _, _⟩, ⟨19, true, _, _⟩, ⟨22, true, _, _⟩, ⟨25, true, _, _⟩, ⟨26, true, _, _⟩]) (M' := [⟨3, _, _⟩, ⟨5, _, _⟩, ⟨7, _, _⟩]) rfl rfl ?_
            refine Tr.seq ?_
            refine Tr.seq ?_
            refine Tr.rg ?_
            refine TrL.op (ok_move rfl (fun _ => rfl)) rfl rfl ?_
            refine TrL.op (ok_geq rfl (fun _ => rfl) rfl (fun _ => rfl)) rfl rfl ?_
            refine TrL.fin ?_
            refine End.nxt ?_
            refine Tr.cnd rfl ?_ ?_
            · intro h18
              replace h18 := of_decide_eq_true h18
              refine Tr.skip ?_
              refine End.nxt ?_
              refine Tr.seq ?_
              refine Tr.blk ?_
              refine Tr.seq ?_
              refine Tr.rg ?_
              have hx := all_drop hw (j := j - 1) (by omega)
              have hxc := isLet_cases hx
              refine TrL.op (ok_move rfl (fun _ => rfl)) rfl rfl ?_
              refine TrL.op (ok_move rfl (fun _ => rfl)) rfl rfl ?_
              refine TrL.op (ok_idxS rfl (fun _ => rfl) (i := j - 1) (by rw [show ((j - 1 : Nat) : Int) = (j : Int) - 1 by omega]; rfl) (fun _ => rfl) (fun _ => by omega)) rfl rfl ?_
              refine TrL.fin ?_
              refine End.nxt ?_
              refine Tr.blk ?_
              refine Tr.seq ?_
              refine Tr.rg ?_
              refine TrL.op (ok_eql rfl (fun _ => rfl) rfl (fun _ => rfl)) rfl rfl ?_
              refine TrL.op (ok_assign rfl (fun _ => rfl)) rfl rfl ?_
              refine TrL.fin ?_
              refine End.nxt ?_
              refine Tr.cnd rfl ?_ ?_
              · intro h22
                try simp only [decide_eq_true_eq] at h22
                refine Tr.rg ?_
                refine TrL.op (ok_move rfl (fun _ => rfl)) rfl rfl ?_
                refine TrL.op (ok_move rfl (fun _ => rfl)) rfl rfl ?_
                refine TrL.op (ok_addW rfl (fun _ => rfl) rfl (fun _ => rfl)) rfl rfl ?_
                refine TrL.op (ok_assign rfl (fun _ => rfl)) rfl rfl ?_
                refine TrL.fin ?_
                refine End.blk ?_
                refine End.blk ?_
                refine End.nxt ?_
                refine Tr.rg ?_
                refine TrL.op (ok_move rfl (fun _ => rfl)) rfl rfl ?_
                refine TrL.op (ok_sub rfl (fun _ => rfl) rfl (fun _ => rfl) (fun _ => by omega)) rfl rfl ?_
                refine TrL.op (ok_assign rfl (fun _ => rfl)) rfl rfl ?_
                refine TrL.fin ?_
                have hn := hW_next (q := (hX o p.1, hY o p.1)) (drop_cons (ws := bs s) (i := j) (by omega) (by omega))
                rw [show nth (bs s) (j - 1) = 84 by omega] at hn
                exact End.lp (j - 1) (by first | rfl | omega | (simp; done) | (simp; omega) | assumption) (by omega) (Ent.mk (.i rfl (by first | rfl | omega | (simp; done) | (simp; omega) | assumption) <| .i rfl (by rw [hn]; exact (W_add_l _ _).trans (W_add_r _ _)) <| .i rfl (by rw [hn]; exact rfl) <| .k rfl rfl <| .k rfl rfl <| .k rfl rfl <| .k rfl rfl <| .k rfl rfl <| .k rfl rfl <| .k rfl rfl <| .k rfl rfl <| .k rfl rfl <| .nil) (.k rfl <| .k rfl <| .k rfl <| .nil) rfl)
              · intro h22
                try simp only [decide_eq_false_iff_not] at h22
                refine Tr.seq ?_
                refine Tr.rg ?_
                refine TrL.op (ok_eql rfl (fun _ => rfl) rfl (fun _ => rfl)) rfl rfl ?_
                refine TrL.op (ok_assign rfl (fun _ => rfl)) rfl rfl ?_
                refine TrL.fin ?_
                refine End.nxt ?_
                refine Tr.cnd rfl ?_ ?_
                · intro h24
                  try simp only [decide_eq_true_eq] at h24
                  refine Tr.rg ?_
                  refine TrL.op (ok_move rfl (fun _ => rfl)) rfl rfl ?_
                  refine TrL.op (ok_move rfl (fun _ => rfl)) rfl rfl ?_
                  refine TrL.op (ok_subW rfl (fun _ => rfl) rfl (fun _ => rfl)) rfl rfl ?_
                  refine TrL.op (ok_assign rfl (fun _ => rfl)) rfl rfl ?_
                  refine TrL.fin ?_
                  refine End.blk ?_
                  refine End.blk ?_
                  refine End.nxt ?_
                  refine Tr.rg ?_
                  refine TrL.op (ok_move rfl (fun _ => rfl)) rfl rfl ?_
                  refine TrL.op (ok_sub rfl (fun _ => rfl) rfl (fun _ => rfl) (fun _ => by omega)) rfl rfl ?_
                  refine TrL.op (ok_assign rfl (fun _ => rfl)) rfl rfl ?_
                  refine TrL.fin ?_
                  have hn := hW_next (q := (hX o p.1, hY o p.1)) (drop_cons (ws := bs s) (i := j) (by omega) (by omega))
                  rw [show nth (bs s) (j - 1) = 116 by omega] at hn
                  exact End.lp (j - 1) (by first | rfl | omega | (simp; done) | (simp; omega) | assumption) (by omega) (Ent.mk (.i rfl (by first | rfl | omega | (simp; done) | (simp; omega) | assumption) <| .i rfl (by rw [hn]; exact (W_sub_l _ _).trans (W_sub_r _ _)) <| .i rfl (by rw [hn]; exact rfl) <| .k rfl rfl <| .k rfl rfl <| .k rfl rfl <| .k rfl rfl <| .k rfl rfl <| .k rfl rfl <| .k rfl rfl <| .k rfl rfl <| .k rfl rfl <| .nil) (.k rfl <| .k rfl <| .k rfl <| .nil) rfl)
                · intro h24
                  try simp only [decide_eq_false_iff_not] at h24
                  refine Tr.seq ?_
                  refine Tr.rg ?_
                  refine TrL.op (ok_eql rfl (fun _ => rfl) rfl (fun _ => rfl)) rfl rfl ?_
                  refine TrL.op (ok_assign rfl (fun _ => rfl)) rfl rfl ?_
                  refine TrL.fin ?_
                  refine End.nxt ?_
                  refine Tr.cnd rfl ?_ ?_
                  · intro h26
                    try simp only [decide_eq_true_eq] at h26
                    refine Tr.rg ?_
                    refine TrL.op (ok_move rfl (fun _ => rfl)) rfl rfl ?_
                    refine TrL.op (ok_negW rfl (fun _ => rfl)) rfl rfl ?_
                    refine TrL.op (ok_move rfl (fun _ => rfl)) rfl rfl ?_
                    refine TrL.op (ok_assign rfl (fun _ => rfl)) rfl rfl ?_
                    refine TrL.op (ok_assign rfl (fun _ => rfl)) rfl rfl ?_
                    refine TrL.fin ?_
                    refine End.blk ?_
                    refine End.blk ?_
                    refine End.nxt ?_
                    refine Tr.rg ?_
                    refine TrL.op (ok_move rfl (fun _ => rfl)) rfl rfl ?_
                    refine TrL.op (ok_sub rfl (fun _ => rfl) rfl (fun _ => rfl) (fun _ => by omega)) rfl rfl ?_
                    refine TrL.op (ok_assign rfl (fun _ => rfl)) rfl rfl ?_
                    refine TrL.fin ?_
                    have hn := hW_next (q := (hX o p.1, hY o p.1)) (drop_cons (ws := bs s) (i := j) (by omega) (by omega))
                    rw [show nth (bs s) (j - 1) = 83 by omega] at hn
                    exact End.lp (j - 1) (by first | rfl | omega | (simp; done) | (simp; omega) | assumption) (by omega) (Ent.mk (.i rfl (by first | rfl | omega | (simp; done) | (simp; omega) | assumption) <| .i rfl (by rw [hn]; exact W_neg _) <| .i rfl (by rw [hn]; exact rfl) <| .k rfl rfl <| .k rfl rfl <| .k rfl rfl <| .k rfl rfl <| .k rfl rfl <| .k rfl rfl <| .k rfl rfl <| .k rfl rfl <| .k rfl rfl <| .nil) (.k rfl <| .k rfl <| .k rfl <| .nil) rfl)
                  · intro h26
                    try simp only [decide_eq_false_iff_not] at h26
                    refine Tr.rg ?_
                    refine TrL.op (ok_move rfl (fun _ => rfl)) rfl rfl ?_
                    refine TrL.op (ok_move rfl (fun _ => rfl)) rfl rfl ?_
                    refine TrL.op (ok_negW rfl (fun _ => rfl)) rfl rfl ?_
                    refine TrL.op (ok_assign rfl (fun _ => rfl)) rfl rfl ?_
                    refine TrL.op (ok_assign rfl (fun _ => rfl)) rfl rfl ?_
                    refine TrL.fin ?_
                    refine End.blk ?_
                    refine End.blk ?_
                    refine End.nxt ?_
                    refine Tr.rg ?_
                    refine TrL.op (ok_move rfl (fun _ => rfl)) rfl rfl ?_
                    refine TrL.op (ok_sub rfl (fun _ => rfl) rfl (fun _ => rfl) (fun _ => by omega)) rfl rfl ?_
                    refine TrL.op (ok_assign rfl (fun _ => rfl)) rfl rfl ?_
                    refine TrL.fin ?_
                    have hn := hW_next (q := (hX o p.1, hY o p.1)) (drop_cons (ws := bs s) (i := j) (by omega) (by omega))
                    rw [show nth (bs s) (j - 1) = 115 by omega] at hn
                    exact End.lp (j - 1) (by first | rfl | omega | (simp; done) | (simp; omega) | assumption) (by omega) (Ent.mk (.i rfl (by first | rfl | omega | (simp; done) | (simp; omega) | assumption) <| .i rfl (by rw [hn]; exact rfl) <| .i rfl (by rw [hn]; exact W_neg _) <| .k rfl rfl <| .k rfl rfl <| .k rfl rfl <| .k rfl rfl <| .k rfl rfl <| .k rfl rfl <| .k rfl rfl <| .k rfl rfl <| .k rfl rfl <| .nil) (.k rfl <| .k rfl <| .k rfl <| .nil) rfl)
            · intro h18
              replace h18 := Int.not_le.1 (of_decide_eq_false h18)
              refine Tr.exit ?_
              refine Exs.thn ?_
              refine Exs.thn ?_
              refine Exs.here ?_
              exact End.cut (j) (by omega) (Ent.mk (.i rfl (by first | rfl | omega | (simp; done) | (simp; omega) | assumption) <| .i rfl (by first | rfl | omega | (simp; done) | (simp; omega) | assumption) <| .i rfl (by first | rfl | omega | (simp; done) | (simp; omega) | assumption) <| .k rfl rfl <| .k rfl rfl <| .k rfl rfl <| .k rfl rfl <| .k rfl rfl <| .k rfl rfl <| .k rfl rfl <| .k rfl rfl <| .k rfl rfl <| .nil) (.k rfl <| .k rfl <| .k rfl <| .nil) rfl)
          · rintro j hE0
            refine End.norm (S' := [⟨27, true, _, _⟩, ⟨23, true, _, _⟩, ⟨24, true, _, _⟩, ⟨1, true, _, _⟩, ⟨3, true, _, _⟩, ⟨5, true, _, _⟩, ⟨7, true, _, _⟩, ⟨8, true, _, _⟩, ⟨19, true, _, _⟩, ⟨22, true, _, _⟩, ⟨25, true, _, _⟩, ⟨26, true, _, _⟩]) (M' := [⟨3, _, _⟩, ⟨5, _, _⟩, ⟨7, _, _⟩]) rfl rfl ?_
            refine End.nxt ?_
            refine Tr.seq ?_
            refine Tr.seq ?_
            refine Tr.rg ?_
            refine TrL.op (ok_move rfl (fun _ => rfl)) rfl rfl ?_
            refine TrL.op (ok_neq rfl (fun _ => rfl) rfl (fun _ => rfl)) rfl rfl ?_
            refine TrL.op (ok_move rfl (fun _ => rfl)) rfl rfl ?_
            refine TrL.gd rfl rfl rfl (ok_move rfl (fun _ => rfl)) rfl rfl ?_
            refine TrL.gd rfl rfl rfl (ok_neq rfl id rfl (fun _ => rfl)) rfl rfl ?_
            refine TrL.op (ok_or rfl (fun _ => rfl) rfl (fun hp h => gdF2 ((fun _ => rfl) hp) h)) rfl rfl ?_
            refine TrL.op (ok_move rfl (fun _ => rfl)) rfl rfl ?_
            refine TrL.gd rfl rfl rfl (ok_move rfl (fun _ => rfl)) rfl rfl ?_
            refine TrL.gd rfl rfl rfl (ok_move rfl (fun _ => rfl)) rfl rfl ?_
            refine TrL.gd rfl rfl rfl (ok_neq rfl id rfl id) rfl rfl ?_
            refine TrL.op (ok_or rfl (fun _ => rfl) rfl (fun hp h => gdF2 ((fun _ => rfl) hp) h)) rfl rfl ?_
            refine TrL.op (ok_move rfl (fun _ => rfl)) rfl rfl ?_
            refine TrL.gd rfl rfl rfl (ok_move rfl (fun _ => rfl)) rfl rfl ?_
            refine TrL.gd rfl rfl rfl (ok_move rfl (fun _ => rfl)) rfl rfl ?_
            refine TrL.gd rfl rfl rfl (ok_neq rfl id rfl id) rfl rfl ?_
            refine TrL.op (ok_or rfl (fun _ => rfl) rfl (fun hp h => gdF2 ((fun _ => rfl) hp) h)) rfl rfl ?_
            refine TrL.fin ?_
            refine End.nxt ?_
            refine Tr.cnd rfl ?_ ?_
            · intro h28
              try simp only [decide_eq_true_eq, Bool.or_eq_true, ne_eq] at h28
              subst hE0
              rw [List.drop_zero, ← eH] at h28
              simp at h28
            · intro h28
              try simp only [decide_eq_false_iff_not, Bool.or_eq_false_iff, ne_eq, Classical.not_not] at h28
              refine Tr.skip ?_
              refine End.nxt ?_
              refine Tr.seq ?_
              refine Tr.rg ?_
              refine TrL.op (ok_assign rfl (fun _ => rfl)) rfl rfl ?_
              refine TrL.fin ?_
              refine End.nxt ?_
              refine Tr.seq ?_
              refine Tr.seq ?_
              refine Tr.rg ?_
              refine TrL.op (ok_move rfl (fun _ => rfl)) rfl rfl ?_
              refine TrL.op (ok_lenS rfl (fun _ => rfl)) rfl rfl ?_
              refine TrL.op (ok_sub rfl (fun _ => rfl) rfl (fun _ => rfl) (fun _ => by omega)) rfl rfl ?_
              refine TrL.op (ok_assign rfl (fun _ => rfl)) rfl rfl ?_
              refine TrL.fin ?_
              refine End.nxt ?_
              refine Tr.for1 (σ := Nat) [⟨1, true, _, _⟩, ⟨3, true, _, _⟩, ⟨5, true, _, _⟩, ⟨7, true, _, _⟩, ⟨8, true, _, _⟩] [⟨3, _, _⟩, ⟨5, _, _⟩, ⟨7, _, _⟩] (fun i => [⟨29, true, [], kI ((i : Int) - 1)⟩, ⟨28, true, [], kS (strB (iw ((bs s).drop i)))⟩]) (fun i => []) (fun i => i ≤ (bs s).length) (fun i => i = 0) (fun i => i) ((bs s).length) (by first | rfl | omega | (simp; done) | (simp; omega) | assumption) (Ent.mk (.i rfl (by first | rfl | omega | (simp; done) | (simp; omega) | assumption) <| .conv rfl rfl (fun _ _ h => (by rw [List.drop_length]; exact h)) rfl <| .k rfl rfl <| .k rfl rfl <| .k rfl rfl <| .k rfl rfl <| .k rfl rfl <| .nil) (.k rfl <| .k rfl <| .k rfl <| .nil) rfl) ?_ ?_
              · intro i hR1
                refine Tr.norm (S' := [⟨29, true, _, _⟩, ⟨28, true, _, _⟩, ⟨1, true, _, _⟩, ⟨3, true, _, _⟩, ⟨5, true, _, _⟩, ⟨7, true, _, _⟩, ⟨8, true, _, _⟩]) (M' := [⟨3, _, _⟩, ⟨5, _, _⟩, ⟨7, _, _⟩]) rfl rfl ?_
                refine Tr.seq ?_
                refine Tr.seq ?_
                refine Tr.rg ?_
                refine TrL.op (ok_move rfl (fun _ => rfl)) rfl rfl ?_
                refine TrL.op (ok_geq rfl (fun _ => rfl) rfl (fun _ => rfl)) rfl rfl ?_
                refine TrL.fin ?_
                refine End.nxt ?_
                refine Tr.cnd rfl ?_ ?_
                · intro h32
                  replace h32 := of_decide_eq_true h32
                  refine Tr.skip ?_
                  refine End.nxt ?_
                  refine Tr.seq ?_
                  refine Tr.blk ?_
                  refine Tr.rg ?_
                  have hx := all_drop hw (j := i - 1) (by omega)
                  have hsz := strB_size (xs := iw ((bs s).drop i))
                  rw [iw_len, List.length_drop] at hsz
                  refine TrL.op (ok_move rfl (fun _ => rfl)) rfl rfl ?_
                  refine TrL.op (ok_move rfl (fun _ => rfl)) rfl rfl ?_
                  refine TrL.op (ok_move rfl (fun _ => rfl)) rfl rfl ?_
                  refine TrL.op (ok_idxS rfl (fun _ => rfl) (i := i - 1) (by rw [show ((i - 1 : Nat) : Int) = (i : Int) - 1 by omega]; rfl) (fun _ => rfl) (fun _ => by omega)) rfl rfl ?_
                  refine TrL.op (ok_xor rfl (fun _ => rfl) rfl (fun _ => rfl) (xor_let hx)) rfl rfl ?_
                  refine TrL.op (ok_bslJ (eInt .u8) (fun hp => .cons rfl <| .nil) rfl rfl rfl rfl) rfl rfl ?_
                  refine TrL.op (ok_bytesS rfl (fun _ => rfl) (fun _ => by simp)) rfl rfl ?_
                  refine TrL.op (ok_addS rfl (fun _ => rfl) rfl (fun _ => rfl) (fun _ => by rw [hsz, strB_size, List.length_singleton]; omega)) rfl rfl ?_
                  refine TrL.op (ok_assign rfl (fun _ => rfl)) rfl rfl ?_
                  refine TrL.fin ?_
                  refine End.blk ?_
                  refine End.nxt ?_
                  refine Tr.rg ?_
                  refine TrL.op (ok_move rfl (fun _ => rfl)) rfl rfl ?_
                  refine TrL.op (ok_sub rfl (fun _ => rfl) rfl (fun _ => rfl) (fun _ => by omega)) rfl rfl ?_
                  refine TrL.op (ok_assign rfl (fun _ => rfl)) rfl rfl ?_
                  refine TrL.fin ?_
                  have hdr := drop_cons (ws := bs s) (i := i) (by omega) (by omega)
                  exact End.lp (i - 1) (by first | rfl | omega | (simp; done) | (simp; omega) | assumption) (by omega) (Ent.mk (.i rfl (by first | rfl | omega | (simp; done) | (simp; omega) | assumption) <| .conv rfl rfl (fun _ _ h => (by rw [hdr, iw_cons, ← strB_app]; exact h)) rfl <| .k rfl rfl <| .k rfl rfl <| .k rfl rfl <| .k rfl rfl <| .k rfl rfl <| .nil) (.k rfl <| .k rfl <| .k rfl <| .nil) rfl)
                · intro h32
                  replace h32 := Int.not_le.1 (of_decide_eq_false h32)
                  refine Tr.exit ?_
                  refine Exs.thn ?_
                  refine Exs.thn ?_
                  refine Exs.here ?_
                  exact End.cut (i) (by omega) (Ent.mk (.i rfl (by first | rfl | omega | (simp; done) | (simp; omega) | assumption) <| .k rfl rfl <| .k rfl rfl <| .k rfl rfl <| .k rfl rfl <| .k rfl rfl <| .k rfl rfl <| .nil) (.k rfl <| .k rfl <| .k rfl <| .nil) rfl)
              · rintro i hE1
                refine End.norm (S' := [⟨29, true, _, _⟩, ⟨28, true, _, _⟩, ⟨1, true, _, _⟩, ⟨3, true, _, _⟩, ⟨5, true, _, _⟩, ⟨7, true, _, _⟩, ⟨8, true, _, _⟩]) (M' := [⟨3, _, _⟩, ⟨5, _, _⟩, ⟨7, _, _⟩]) rfl rfl ?_
                refine End.nxt ?_
                refine Tr.seq ?_
                refine Tr.rg ?_
                refine TrL.op (ok_ldBS rfl (fun _ => rfl)) rfl rfl ?_
                refine TrL.op (ok_move rfl (fun _ => rfl)) rfl rfl ?_
                refine TrL.op (ok_move rfl (fun _ => rfl)) rfl rfl ?_
                refine TrL.op (ok_call (fun hp => ct_hPushG _ (strB (iw ((bs s).drop i))) _ v2 (by rw [strB_size, iw_len, List.length_drop]; omega) (by rw [bs_strB iw_rng]; exact iw_let) hcA2) (.s rfl (fun _ => rfl) rfl <| .a rfl (fun _ => rfl) <| .a rfl (fun _ => rfl) <| .nil)) rfl rfl ?_
                refine TrL.op (ok_move rfl (fun _ => rfl)) rfl rfl ?_
                refine TrL.op (ok_ext rfl (fun _ => rfl) rfl) rfl rfl ?_
                refine TrL.op (ok_ext rfl (fun _ => rfl) rfl) rfl rfl ?_
                refine TrL.op (ok_ext rfl (fun _ => rfl) rfl) rfl rfl ?_
                refine TrL.new (ok_alloc 30) rfl rfl rfl rfl ?_
                refine TrL.stB rfl rfl rfl rfl ?_
                refine TrL.op (ok_assign rfl (fun _ => rfl)) rfl rfl ?_
                refine TrL.op (ok_assign rfl (fun _ => rfl)) rfl rfl ?_
                refine TrL.fin ?_
                refine End.nxt ?_
                refine Tr.seq ?_
                refine Tr.rg ?_
                refine TrL.op (ok_move rfl (fun _ => rfl)) rfl rfl ?_
                refine TrL.op (ok_eql rfl (fun _ => rfl) rfl (fun _ => rfl)) rfl rfl ?_
                refine TrL.op (ok_move rfl (fun _ => rfl)) rfl rfl ?_
                refine TrL.gd rfl rfl rfl (ok_ldBS rfl (fun _ => rfl)) rfl rfl ?_
                refine TrL.gd rfl rfl rfl (ok_ldBS rfl (fun _ => rfl)) rfl rfl ?_
                refine TrL.gd rfl rfl rfl (ok_call (fun hp => ct_SameO _ _) (.s rfl id rfl <| .s rfl id rfl <| .nil)) rfl rfl ?_
                refine TrL.op (ok_and rfl (fun _ => rfl) rfl (fun hp h => gdT2 ((fun _ => rfl) hp) h)) rfl rfl ?_
                refine TrL.op (ok_move rfl (fun _ => rfl)) rfl rfl ?_
                refine TrL.gd rfl rfl rfl (ok_move rfl (fun _ => rfl)) rfl rfl ?_
                refine TrL.gd rfl rfl rfl (ok_fldO rfl (fun _ => rfl)) rfl rfl ?_
                refine TrL.gd rfl rfl rfl (ok_ldB rfl id rfl) rfl rfl ?_
                refine TrL.gd rfl rfl rfl (ok_call (fun hp => ct_Ints _ _) (.a rfl id <| .a rfl id <| .nil)) rfl rfl ?_
                refine TrL.op (ok_and rfl (fun _ => rfl) rfl (fun hp h => gdT2 ((fun _ => rfl) hp) h)) rfl rfl ?_
                refine TrL.op (ok_assign rfl (fun _ => rfl)) rfl rfl ?_
                refine TrL.fin ?_
                refine End.nxt ?_
                refine Tr.ret ?_
                exact Rts.res1 (fn := Tryd.f7) rfl (.b rfl (by subst hE1; rw [List.drop_zero, bs_strB iw_rng, eO2, eC2]; simp) <| .nil)

end Go.Fl

/- THE LAW HomologyActs HOLDS FOR EVERY INPUT: whatever the arguments, the call returns true, and each argument reads behind it as before. Conditions: those of the given row (its listed variables as the program lays them). -/
namespace Go.Proofs.YtjknpblmpcecjaaDoor
open Go Go.Fl Go.RowKit Go.ChangeShapes Go.WideShapes Go.ChangeAt

theorem rdt22 : RdT Tryd.prog 22 (eL eI) (ListP (okI .i64)) := RdT.slice RdT.int rfl rfl rfl
theorem rdt24t : RdT Tryd.prog 24 (eP (eL eI) (eP (eL eI) eU)) (AndP (ListP (okI .i64)) (AndP (ListP (okI .i64)) UnitP)) := by
  refine RdT.struct (l := [_, _]) Tryd.underlying24 rfl (by kernel_rfl) ?_
  refine FldT.cons rdt22 (by rfl) (by rfl) (by rfl) ?_
  refine FldT.cons rdt22 (by rfl) (by rfl) (by rfl) ?_
  exact FldT.nil
theorem rdt24 : RdT Tryd.prog 24 eO (fun o : Ori => ListP (okI .i64) o.1 ∧ ListP (okI .i64) o.2) := RdT.conv rdt24t (fun x => ((x.1, x.2.1) : Ori)) (fun _ _ _ h => h) (fun _ h => ⟨h.1, h.2.1⟩)
theorem rdt47t : RdT Tryd.prog 47 (eP (eL eI) (eP (eL eI) (eP eI eU))) (AndP (ListP (okI .i64)) (AndP (ListP (okI .i64)) (AndP (okI .i64) UnitP))) := by
  refine RdT.struct (l := [_, _, _]) Tryd.underlying47 rfl (by kernel_rfl) ?_
  refine FldT.cons rdt22 (by rfl) (by rfl) (by rfl) ?_
  refine FldT.cons rdt22 (by rfl) (by rfl) (by rfl) ?_
  refine FldT.cons RdT.int (by rfl) (by rfl) (by rfl) ?_
  exact FldT.nil
theorem rdt47 : RdT Tryd.prog 47 ePair (fun p : PairT => ListP (okI .i64) p.1 ∧ ListP (okI .i64) p.2.1 ∧ okI .i64 p.2.2) := RdT.conv rdt47t (fun x => ((x.1, x.2.1, x.2.2.1) : PairT)) (fun _ _ _ h => h) (fun _ h => ⟨h.1, h.2.1, h.2.2.1⟩)
theorem own : ownKnob Tryd.prog.godebug = none := by kernel_rfl
set_option maxRecDepth 100000 in
theorem lifted (os : Os) (started : os.Started) (H : Type) (enc : TypeId × Value → H) :
    ReturnsInHanded {} Tryd.checked os 7 .any (fun w args => (Rows.homologyActsSpec.pre enc Tryd.prog Tryd.f7 [] false w args ∧ laidMetH Tryd.prog Rows.homologyActsRow.laid w) ∧ sizedMet enc Tryd.prog Tryd.f7 (OpenSpec.ofChange Rows.homologyActsSpec) false w args)
      (Rows.homologyActsSpec.post enc Tryd.prog Tryd.f7 false true false false) := by
  refine returnsInHanded_of_change_and (C := Tryd.checked) (X := fun w _ => laidMetH Tryd.prog Rows.homologyActsRow.laid w) (fun _ _ _ hh h => h.of_heap hh) own started (by kernel_rfl) Tryd.func7
    (ChangeSpec.witness_shaped (enc := enc) (C := Tryd.checked) (os := os) (X := fun w _ => laidMetH Tryd.prog Rows.homologyActsRow.laid w) false (World.laidAll Tryd.prog os Rows.homologyActsRow.laid) #[.agg #[.slice none 0 0, .slice none 0 0], .string ⟨#[]⟩, .agg #[.slice none 0 0, .slice none 0 0, .int .i64 0]] 8 (World.laidAll_os _ _ _)
      (World.shaped_of_ZipB (by kernel_rfl) (by kernel_rfl)) (by kernel_rfl) (by kernel_rfl) (by kernel_rfl)
      (by rw [MakeChecks.laidMetH_plain _ _ _ (by kernel_rfl)]; exact laidMet_laidAll _ (by kernel_rfl) (by kernel_rfl))) ?_
  intro W base args ds gs before hval0 hW _ hwt hL _
  have hval : ∀ (j : Nat) t v, Tryd.f7.params[j]? = some t → args[j]? = some v → Value.okWide Tryd.prog W .any base t v := hval0
  have hpost : ∀ W', Below W.heap.size W W' → Rows.homologyActsSpec.post enc Tryd.prog Tryd.f7 false true false false W args (.bool true) W' := fun W' hb => law_post (by kernel_rfl) (by kernel_rfl) (by kernel_rfl) hW (by kernel_rfl) rfl (fun hg => by
    subst hg
    obtain ⟨p, q, hA0, _⟩ := hW
    have hA : DataW.TrodAll enc Tryd.prog W 0 (fun _ => true) true Tryd.f7.params.toList args.toList ds p := hA0
    rw [Tryd.params7] at hA
    obtain ⟨v0, v1, v2, d0, d1, d2, _, _, _, rfl, rfl, _, _, _, _⟩ := trodAll_three hA
    rfl) rfl Tryd.underlying4 hb
  have hW0 := hW
  obtain ⟨p, q, hA0, hV, rfl, _, _⟩ := hW0
  have hA : DataW.TrodAll enc Tryd.prog W 0 (fun _ => true) true Tryd.f7.params.toList args.toList ds p := hA0
  rw [Tryd.params7] at hA hval hwt
  obtain ⟨rfl, rfl⟩ := trodVars_none hV
  obtain ⟨v0, v1, v2, d0, d1, d2, _, _, _, rfl, rfl, _, h0, h1, h2⟩ := trodAll_three hA
  have hwt' : (DataW.weightsEach Tryd.prog [24, 9, 47] [d0, d1, d2]).all (· ≤ reachBytes) = true := hwt
  have w0 := weights_cons hwt'
  have w1 := weights_cons w0.2
  have w2 := weights_cons w1.2
  obtain ⟨x0, k0, r0⟩ := RdT.val (by exact rdt24 : RdT Tryd.prog 24 eO (fun o : Ori => ListP (okI .i64) o.1 ∧ ListP (okI .i64) o.2)) rfl (hval 0 24 v0 rfl rfl) h0 w0.1
  obtain ⟨x1, k1, r1⟩ := RdT.val (by exact RdT.str : RdT Tryd.prog 9 eStr StrP) rfl (hval 1 9 v1 rfl rfl) h1 w1.1
  obtain ⟨x2, k2, r2⟩ := RdT.val (by exact rdt47 : RdT Tryd.prog 47 ePair (fun p : PairT => ListP (okI .i64) p.1 ∧ ListP (okI .i64) p.2.1 ∧ okI .i64 p.2.2)) rfl (hval 2 47 v2 rfl rfl) h2 w2.1
  refine Ct.law (vs := #[v0, v1, v2]) (ct_HomologyActs x0 x1 x2) ?_ fun W' hb => ⟨_, rfl, hpost W' hb⟩
  exact ⟨k0, (kS_rd k1), k2, trivial⟩
theorem holds : Rows.homologyActsRow.holds Tryd.pinned (OpenSpec.ofChange Rows.homologyActsSpec) :=
  OpenClaim.holds_of_wide 7 Tryd.f7 rfl rfl rfl rfl rfl rfl rfl ⟨rfl, rfl, rfl, rfl, rfl⟩ rfl rfl rfl rfl rfl (by kernel_rfl) Tryd.func7 (by kernel_rfl)
    (of_decide_eq_true (by kernel_rfl)) (by unfold Func.isWrapper; first | (rw [if_pos (by decide +kernel)]; kernel_rfl) | (rw [if_neg (by decide +kernel)]; exact ⟨rfl, rfl⟩))
    (fun os started H enc _ => lifted os started H enc)
theorem homologyActs_holds : Rows.HomologyActsCardSaid :=
  Claim7.holds_tied_plain_at .later [] [.data, .pinned] true (true, "252dad1770f534ae80f9b31edcf54ab8807fc43037e7828423b9627a9e6c4751") false holds (fun _ h => by cases h) (by kernel_rfl) (fun _ h => by cases h) homologyActs_row_tie rfl ⟨rfl, rfl⟩ (by kernel_rfl) rfl
    (fun f fn hf hfn => by
      obtain rfl : f = 7 := Option.some.inj ((show Tryd.prog.funcNamed Rows.homologyActsRow.func = some 7 by kernel_rfl).symm.trans hf) |>.symm
      obtain rfl : fn = Tryd.f7 := (Option.some.inj (Tryd.func7.symm.trans hfn)).symm
      exact ⟨by kernel_rfl, fun j t ht => by
        rw [Tryd.params7] at ht
        have hm : t ∈ [24, 9, 47] := by simpa using Array.mem_of_getElem? ht
        have hall : ([24, 9, 47].all fun u => !Tryd.prog.wantsStandIn u) = true := by kernel_rfl
        exact (show Tryd.prog.wantsStandIn t = false by simpa using List.all_eq_true.1 hall t hm)⟩)
    (by kernel_rfl)
end Go.Proofs.YtjknpblmpcecjaaDoor
