/- Laws on walking typed knowledge through code, and contracts. -/
import Derived.Test.YtjknpblmpcecjaaDoorM2

/- Contracts of the functions of chapter 8, printed by gen.py. -/
namespace Go.Fl
open Go Go.Proofs

set_option maxRecDepth 100000 in
theorem ct_open (o : Ori) : Ct Tryd.prog 41 [kRd eO o] (kTup [kIf (decide (chkO o = 0)) (kPtr eG (gridOf o)) (kDet (.pointer none)), kI (chkO o)]) := by
  refine Ct.mk Tryd.func41 rfl Tryd.ntmps41 rfl (fun w J => ?_)
  refine Tr.seq ?_
  refine Tr.rg ?_
  refine TrL.new (ok_box 1 rfl (fun _ => rfl) rfl) rfl rfl rfl rfl ?_
  refine TrL.op (ok_assign rfl (fun _ => rfl)) rfl rfl ?_
  refine TrL.op (ok_assign rfl (fun _ => rfl)) rfl rfl ?_
  refine TrL.fin ?_
  refine End.nxt ?_
  refine Tr.seq ?_
  refine Tr.rg ?_
  refine TrL.op (ok_ldBS rfl (fun _ => rfl)) rfl rfl ?_
  refine TrL.op (ok_call (fun hp => ct_oVertices _) (.s rfl (fun _ => rfl) rfl <| .nil)) rfl rfl ?_
  refine TrL.op (ok_move rfl (fun _ => rfl)) rfl rfl ?_
  refine TrL.op (ok_ext rfl (fun _ => rfl) rfl) rfl rfl ?_
  refine TrL.op (ok_ext rfl (fun _ => rfl) rfl) rfl rfl ?_
  refine TrL.op (ok_assign rfl (fun _ => rfl)) rfl rfl ?_
  refine TrL.op (ok_assign rfl (fun _ => rfl)) rfl rfl ?_
  refine TrL.fin ?_
  refine End.nxt ?_
  refine Tr.seq ?_
  refine Tr.seq ?_
  refine Tr.rg ?_
  refine TrL.op (ok_move rfl (fun _ => rfl)) rfl rfl ?_
  refine TrL.op (ok_neq rfl (fun _ => rfl) rfl (fun _ => rfl)) rfl rfl ?_
  refine TrL.fin ?_
  refine End.nxt ?_
  refine Tr.cnd rfl ?_ ?_
  · intro h2
    replace h2 := of_decide_eq_true h2
    refine Tr.seq ?_
    refine Tr.rg ?_
    refine TrL.op (ok_move rfl (fun _ => rfl)) rfl rfl ?_
    refine TrL.op (ok_assign rfl (fun _ => rfl)) rfl rfl ?_
    refine TrL.op (ok_assign rfl (fun _ => rfl)) rfl rfl ?_
    refine TrL.fin ?_
    refine End.nxt ?_
    refine Tr.ret ?_
    refine Rts.thn ?_
    exact Rts.res (fn := Tryd.f41) (ts := [2, 3]) rfl rfl (.ifF rfl (decide_eq_false h2) (fun _ _ h => h) <| .i rfl (by first | rfl | omega | (simp; done) | (simp; omega) | assumption) <| .nil)
  · intro h2
    replace h2 := Classical.not_not.1 (of_decide_eq_false h2)
    have v : Valid o := valid_of h2
    have hv0 := v.pos
    have hv1 := v.len
    have hv2 := v.le
    have hl1 := invL_len o.1
    have hl2 := invL_len o.2
    have hl3 := vertL_len (o := o)
    have hl4 := vtx_le (o := o)
    refine Tr.rwR (s := 4) rfl (if_pos h2) ?_
    refine Tr.skip ?_
    refine End.nxt ?_
    refine Tr.seq ?_
    refine Tr.draw 20 mixed (by kernel_rfl) ?_
    refine RunD.op (ok_fldO rfl (fun _ => rfl)) rfl rfl ?_
    refine RunD.op (ok_ldB rfl (fun _ => rfl) rfl) rfl rfl ?_
    refine RunD.op (ok_lenJ rfl (fun _ => rfl)) rfl rfl ?_
    refine RunD.op (ok_fldO rfl (fun _ => rfl)) rfl rfl ?_
    refine RunD.op (ok_ldB rfl (fun _ => rfl) rfl) rfl rfl ?_
    refine RunD.op (ok_call (fun hp => ct_cloneI _ (by omega)) (.a rfl (fun _ => rfl) <| .nil)) rfl rfl ?_
    refine RunD.op (ok_fldO rfl (fun _ => rfl)) rfl rfl ?_
    refine RunD.op (ok_ldB rfl (fun _ => rfl) rfl) rfl rfl ?_
    refine RunD.op (ok_call (fun hp => ct_cloneI _ (by omega)) (.a rfl (fun _ => rfl) <| .nil)) rfl rfl ?_
    refine RunD.op (ok_fldO rfl (fun _ => rfl)) rfl rfl ?_
    refine RunD.op (ok_ldB rfl (fun _ => rfl) rfl) rfl rfl ?_
    refine RunD.op (ok_call (fun hp => ct_hinv _ v.l1 v.rR) (.a rfl (fun _ => rfl) <| .nil)) rfl rfl ?_
    refine RunD.op (ok_fldO rfl (fun _ => rfl)) rfl rfl ?_
    refine RunD.op (ok_ldB rfl (fun _ => rfl) rfl) rfl rfl ?_
    refine RunD.op (ok_call (fun hp => ct_hinv _ v.l2 v.r2) (.a rfl (fun _ => rfl) <| .nil)) rfl rfl ?_
    refine RunD.op (ok_move rfl (fun _ => rfl)) rfl rfl ?_
    refine RunD.op (ok_fldO rfl (fun _ => rfl)) rfl rfl ?_
    refine RunD.op (ok_ldB rfl (fun _ => rfl) rfl) rfl rfl ?_
    refine RunD.op (ok_lenJ rfl (fun _ => rfl)) rfl rfl ?_
    refine RunD.new (ok_makeN eI 38 rfl (fun _ => rfl) rfl (fun _ => rfl) rfl rfl rfl (fun _ => by omega)) rfl rfl rfl rfl ?_
    refine RunD.z ?_
    refine TrL.op (ok_build (fun hp => .cons rfl rfl rfl <| .cons rfl rfl rfl <| .cons rfl rfl rfl <| .cons rfl rfl rfl <| .cons rfl rfl rfl <| .cons rfl rfl rfl <| .cons rfl rfl rfl <| .nil)) rfl rfl ?_
    refine TrL.new (ok_box 40 rfl (fun _ => rfl) rfl) rfl rfl rfl rfl ?_
    refine TrL.op (ok_assign rfl (fun _ => rfl)) rfl rfl ?_
    refine TrL.fin ?_
    refine End.nxt ?_
    refine Tr.seq ?_
    refine Tr.seq ?_
    refine Tr.rg ?_
    refine TrL.op (ok_move rfl (fun _ => rfl)) rfl rfl ?_
    refine TrL.op (ok_lenJ rfl (fun _ => rfl)) rfl rfl ?_
    refine TrL.op (ok_move rfl (fun _ => rfl)) rfl rfl ?_
    refine TrL.fin ?_
    refine End.nxt ?_
    refine Tr.for1 (σ := Nat) [⟨6, true, _, _⟩, ⟨41, true, _, _⟩, ⟨42, true, _, _⟩] [⟨40, _, _⟩] (fun k => [⟨43, true, [], kI (k : Int)⟩]) (fun k => [⟨38, [], cArr false 3 eI (vertTo (vtx o) o.1.length k) o.1.length⟩]) (fun k => k ≤ (vtx o).length) (fun k => k = (vtx o).length) (fun k => (vtx o).length - k) (0) (by first | rfl | omega | (simp; done) | (simp; omega) | assumption) (Ent.mk (.i rfl (by first | rfl | omega | (simp; done) | (simp; omega) | assumption) <| .k rfl rfl <| .k rfl rfl <| .k rfl rfl <| .nil) (.a (by first | rfl | omega | (simp; done) | (simp; omega) | assumption) (by first | rfl | omega | (simp; done) | (simp; omega) | assumption) <| .k rfl <| .nil) rfl) ?_ ?_
    · intro k hR0
      refine Tr.norm (S' := [⟨43, true, _, _⟩, ⟨6, true, _, _⟩, ⟨41, true, _, _⟩, ⟨42, true, _, _⟩]) (M' := [⟨38, _, _⟩, ⟨40, _, _⟩]) rfl rfl ?_
      refine Tr.seq ?_
      refine Tr.rg ?_
      refine TrL.op (ok_lss rfl (fun _ => rfl) rfl (fun _ => rfl)) rfl rfl ?_
      refine TrL.fin ?_
      refine End.nxt ?_
      refine Tr.seq ?_
      refine Tr.cnd rfl ?_ ?_
      · intro h6
        replace h6 := of_decide_eq_true h6
        refine Tr.skip ?_
        refine End.nxt ?_
        refine Tr.seq ?_
        refine Tr.blk ?_
        refine Tr.seq ?_
        refine Tr.rg ?_
        refine TrL.op (ok_move rfl (fun _ => rfl)) rfl rfl ?_
        first | refine TrL.op (ok_idxN rfl (fun _ => rfl) rfl (fun _ => rfl) rfl (fun _ => by omega)) rfl rfl ?_ | refine TrL.op (ok_idxP rfl (fun _ => rfl) rfl (fun _ => rfl) rfl (fun _ => by omega)) rfl rfl ?_
        refine TrL.op (ok_ldP rfl (fun _ => rfl) rfl) rfl rfl ?_
        refine TrL.op (ok_assign rfl (fun _ => rfl)) rfl rfl ?_
        refine TrL.op (ok_assign rfl (fun _ => rfl)) rfl rfl ?_
        refine TrL.fin ?_
        refine End.nxt ?_
        refine Tr.seq ?_
        refine Tr.rg ?_
        have hrow := vtx_row v (i := k) (by omega)
        refine TrL.op (ok_move rfl (fun _ => rfl)) rfl rfl ?_
        refine TrL.op (ok_lenJ rfl (fun _ => rfl)) rfl rfl ?_
        refine TrL.op (ok_move rfl (fun _ => rfl)) rfl rfl ?_
        refine TrL.fin ?_
        refine End.nxt ?_
        refine Tr.for1 (σ := Nat) [⟨6, true, _, _⟩, ⟨7, true, _, _⟩, ⟨41, true, _, _⟩, ⟨42, true, _, _⟩, ⟨43, true, _, _⟩, ⟨48, true, _, _⟩, ⟨49, true, _, _⟩] [⟨40, _, _⟩] (fun i => [⟨50, true, [], kI (i : Int)⟩]) (fun i => [⟨38, [], cArr false 3 eI (setC (vertTo (vtx o) o.1.length k) ((nth (vtx o) k).take i) k) o.1.length⟩]) (fun i => i ≤ (nth (vtx o) k).length) (fun i => i = (nth (vtx o) k).length) (fun i => (nth (vtx o) k).length - i) (0) (by first | rfl | omega | (simp; done) | (simp; omega) | assumption) (Ent.mk (.i rfl (by first | rfl | omega | (simp; done) | (simp; omega) | assumption) <| .k rfl rfl <| .k rfl rfl <| .k rfl rfl <| .k rfl rfl <| .k rfl rfl <| .k rfl rfl <| .k rfl rfl <| .nil) (.a (by rw [List.take_zero]; rfl) (by first | rfl | omega | (simp; done) | (simp; omega) | assumption) <| .k rfl <| .nil) rfl) ?_ ?_
        · intro i hR1
          refine Tr.norm (S' := [⟨50, true, _, _⟩, ⟨6, true, _, _⟩, ⟨7, true, _, _⟩, ⟨41, true, _, _⟩, ⟨42, true, _, _⟩, ⟨43, true, _, _⟩, ⟨48, true, _, _⟩, ⟨49, true, _, _⟩]) (M' := [⟨38, _, _⟩, ⟨40, _, _⟩]) rfl rfl ?_
          refine Tr.seq ?_
          refine Tr.rg ?_
          refine TrL.op (ok_lss rfl (fun _ => rfl) rfl (fun _ => rfl)) rfl rfl ?_
          refine TrL.fin ?_
          refine End.nxt ?_
          refine Tr.seq ?_
          refine Tr.cnd rfl ?_ ?_
          · intro h9
            replace h9 := of_decide_eq_true h9
            refine Tr.skip ?_
            refine End.nxt ?_
            refine Tr.seq ?_
            refine Tr.blk ?_
            refine Tr.seq ?_
            refine Tr.rg ?_
            first | refine TrL.op (ok_idxN rfl (fun _ => rfl) rfl (fun _ => rfl) rfl (fun _ => by omega)) rfl rfl ?_ | refine TrL.op (ok_idxP rfl (fun _ => rfl) rfl (fun _ => rfl) rfl (fun _ => by omega)) rfl rfl ?_
            refine TrL.op (ok_ldP rfl (fun _ => rfl) rfl) rfl rfl ?_
            refine TrL.op (ok_assign rfl (fun _ => rfl)) rfl rfl ?_
            refine TrL.fin ?_
            refine End.nxt ?_
            refine Tr.rg ?_
            have hx := vtx_mem v (i := k) (j := i) (by omega) (by omega)
            refine TrL.op (ok_move rfl (fun _ => rfl)) rfl rfl ?_
            refine TrL.op (ok_nilO rfl (fun _ => rfl)) rfl rfl ?_
            refine TrL.op (ok_fldO rfl (fun _ => rfl)) rfl rfl ?_
            refine TrL.op (ok_ldB rfl (fun _ => rfl) rfl) rfl rfl ?_
            refine TrL.op (ok_move rfl (fun _ => rfl)) rfl rfl ?_
            refine TrL.op (ok_move rfl (fun _ => rfl)) rfl rfl ?_
            first | refine TrL.op (ok_idxEN rfl (fun _ => rfl) rfl (fun _ => rfl) (fun _ => by omega)) rfl rfl ?_ | refine TrL.op (ok_idxE rfl (fun _ => rfl) rfl (fun _ => rfl) (fun _ => by omega)) rfl rfl ?_
            refine TrL.stE rfl rfl rfl rfl rfl ?_
            refine TrL.fin ?_
            refine End.blk ?_
            refine End.nxt ?_
            refine Tr.rg ?_
            refine TrL.op (ok_add rfl (fun _ => rfl) rfl (fun _ => rfl) (fun _ => by omega)) rfl rfl ?_
            refine TrL.op (ok_move rfl (fun _ => rfl)) rfl rfl ?_
            refine TrL.fin ?_
            exact End.lp (i + 1) (by first | rfl | omega | (simp; done) | (simp; omega) | assumption) (by omega) (Ent.mk (.i rfl (by first | rfl | omega | (simp; done) | (simp; omega) | assumption) <| .k rfl rfl <| .k rfl rfl <| .k rfl rfl <| .k rfl rfl <| .k rfl rfl <| .k rfl rfl <| .k rfl rfl <| .nil) (.a (by rw [take_succ_nth (by omega), setC_snoc]) (by first | rfl | omega | (simp; done) | (simp; omega) | assumption) <| .k rfl <| .nil) rfl)
          · intro h9
            replace h9 := Int.not_lt.1 (of_decide_eq_false h9)
            refine Tr.exit ?_
            refine Exs.thn ?_
            refine Exs.thn ?_
            refine Exs.here ?_
            exact End.cut (i) (by omega) (Ent.mk (.i rfl (by first | rfl | omega | (simp; done) | (simp; omega) | assumption) <| .k rfl rfl <| .k rfl rfl <| .k rfl rfl <| .k rfl rfl <| .k rfl rfl <| .k rfl rfl <| .k rfl rfl <| .nil) (.a (by first | rfl | omega | (simp; done) | (simp; omega) | assumption) (by first | rfl | omega | (simp; done) | (simp; omega) | assumption) <| .k rfl <| .nil) rfl)
        · rintro _ rfl
          refine End.norm (S' := [⟨50, true, _, _⟩, ⟨6, true, _, _⟩, ⟨7, true, _, _⟩, ⟨41, true, _, _⟩, ⟨42, true, _, _⟩, ⟨43, true, _, _⟩, ⟨48, true, _, _⟩, ⟨49, true, _, _⟩]) (M' := [⟨38, _, _⟩, ⟨40, _, _⟩]) rfl rfl ?_
          refine End.blk ?_
          refine End.nxt ?_
          refine Tr.rg ?_
          refine TrL.op (ok_add rfl (fun _ => rfl) rfl (fun _ => rfl) (fun _ => by omega)) rfl rfl ?_
          refine TrL.op (ok_move rfl (fun _ => rfl)) rfl rfl ?_
          refine TrL.fin ?_
          exact End.lp (k + 1) (by first | rfl | omega | (simp; done) | (simp; omega) | assumption) (by omega) (Ent.mk (.i rfl (by first | rfl | omega | (simp; done) | (simp; omega) | assumption) <| .k rfl rfl <| .k rfl rfl <| .k rfl rfl <| .nil) (.a (by rw [List.take_length]; rfl) (by first | rfl | omega | (simp; done) | (simp; omega) | assumption) <| .k rfl <| .nil) rfl)
      · intro h6
        replace h6 := Int.not_lt.1 (of_decide_eq_false h6)
        refine Tr.exit ?_
        refine Exs.thn ?_
        refine Exs.thn ?_
        refine Exs.here ?_
        exact End.cut (k) (by omega) (Ent.mk (.i rfl (by first | rfl | omega | (simp; done) | (simp; omega) | assumption) <| .k rfl rfl <| .k rfl rfl <| .k rfl rfl <| .nil) (.a (by first | rfl | omega | (simp; done) | (simp; omega) | assumption) (by first | rfl | omega | (simp; done) | (simp; omega) | assumption) <| .k rfl <| .nil) rfl)
    · rintro _ rfl
      refine End.norm (S' := [⟨43, true, _, _⟩, ⟨6, true, _, _⟩, ⟨41, true, _, _⟩, ⟨42, true, _, _⟩]) (M' := [⟨38, _, _⟩, ⟨40, _, _⟩]) rfl rfl ?_
      refine End.nxt ?_
      refine Tr.seq ?_
      refine Tr.rg ?_
      refine TrL.op (ok_move rfl (fun _ => rfl)) rfl rfl ?_
      refine TrL.op (ok_assign rfl (fun _ => rfl)) rfl rfl ?_
      refine TrL.op (ok_assign rfl (fun _ => rfl)) rfl rfl ?_
      refine TrL.fin ?_
      refine End.nxt ?_
      refine Tr.frzC 38 40 (by simp only [lenMax]; omega) rfl rfl ?_
      refine Tr.frzB 40 [2] eG ⟨rfl, trivial⟩ rfl ?_
      refine Tr.ret ?_
      exact Rts.res (fn := Tryd.f41) (ts := [2, 3]) rfl rfl (.ifT rfl (decide_eq_true h2) (fun _ _ h => h) <| .i rfl h2.symm <| .nil)

set_option maxRecDepth 100000 in
theorem ct_ends (o : Ori) (v : Valid o) (e : Int) (h0 : 0 ≤ e) (hlt : e < 2 * o.1.length) : Ct Tryd.prog 72 [kPtr eG (gridOf o), kI e] (kTup [kI (endF o e), kI (endT o e)]) := by
  have hv0 := v.pos
  have hv1 := v.len
  have hv2 := v.le
  have hl1 := invL_len o.1
  have hl2 := invL_len o.2
  have hl3 := vertL_len (o := o)
  have hl4 := vtx_le (o := o)
  refine Ct.mk Tryd.func72 rfl Tryd.ntmps72 rfl (fun w J => ?_)
  refine Tr.seq ?_
  refine Tr.rg ?_
  refine TrL.op (ok_assign rfl (fun _ => rfl)) rfl rfl ?_
  refine TrL.op (ok_assign rfl (fun _ => rfl)) rfl rfl ?_
  refine TrL.fin ?_
  refine End.nxt ?_
  refine Tr.seq ?_
  refine Tr.seq ?_
  refine Tr.rg ?_
  refine TrL.op (ok_move rfl (fun _ => rfl)) rfl rfl ?_
  refine TrL.op (ok_move rfl (fun _ => rfl)) rfl rfl ?_
  refine TrL.op (ok_nilP rfl (fun _ => rfl)) rfl rfl ?_
  refine TrL.op (ok_fldP rfl (fun _ => rfl) rfl) rfl rfl ?_
  refine TrL.op (ok_ldP rfl (fun _ => rfl) rfl) rfl rfl ?_
  refine TrL.op (ok_lss rfl (fun _ => rfl) rfl (fun _ => rfl)) rfl rfl ?_
  refine TrL.fin ?_
  refine End.nxt ?_
  refine Tr.cnd rfl ?_ ?_
  · intro h1
    replace h1 := of_decide_eq_true h1
    have a1 := v.ri (i := e.toNat) (by omega)
    refine Tr.seq ?_
    refine Tr.draw 21 mixed (by kernel_rfl) ?_
    refine RunD.op (ok_move rfl (fun _ => rfl)) rfl rfl ?_
    refine RunD.op (ok_nilP rfl (fun _ => rfl)) rfl rfl ?_
    refine RunD.op (ok_fldP rfl (fun _ => rfl) rfl) rfl rfl ?_
    refine RunD.op (ok_ldP rfl (fun _ => rfl) rfl) rfl rfl ?_
    refine RunD.op (ok_move rfl (fun _ => rfl)) rfl rfl ?_
    first | refine RunD.op (ok_idxN rfl (fun _ => rfl) rfl (fun _ => rfl) rfl (fun _ => by omega)) rfl rfl ?_ | refine RunD.op (ok_idxP rfl (fun _ => rfl) rfl (fun _ => rfl) rfl (fun _ => by omega)) rfl rfl ?_
    refine RunD.op (ok_ldP rfl (fun _ => rfl) rfl) rfl rfl ?_
    refine RunD.op (ok_move rfl (fun _ => rfl)) rfl rfl ?_
    refine RunD.op (ok_nilP rfl (fun _ => rfl)) rfl rfl ?_
    refine RunD.op (ok_fldP rfl (fun _ => rfl) rfl) rfl rfl ?_
    refine RunD.op (ok_ldP rfl (fun _ => rfl) rfl) rfl rfl ?_
    refine RunD.op (ok_move rfl (fun _ => rfl)) rfl rfl ?_
    refine RunD.op (ok_nilP rfl (fun _ => rfl)) rfl rfl ?_
    refine RunD.op (ok_fldP rfl (fun _ => rfl) rfl) rfl rfl ?_
    refine RunD.op (ok_ldP rfl (fun _ => rfl) rfl) rfl rfl ?_
    refine RunD.op (ok_move rfl (fun _ => rfl)) rfl rfl ?_
    first | refine RunD.op (ok_idxN rfl (fun _ => rfl) rfl (fun _ => rfl) rfl (fun _ => by omega)) rfl rfl ?_ | refine RunD.op (ok_idxP rfl (fun _ => rfl) rfl (fun _ => rfl) rfl (fun _ => by omega)) rfl rfl ?_
    refine RunD.op (ok_ldP rfl (fun _ => rfl) rfl) rfl rfl ?_
    first | refine RunD.op (ok_idxN rfl (fun _ => rfl) rfl (fun _ => rfl) rfl (fun _ => by omega)) rfl rfl ?_ | refine RunD.op (ok_idxP rfl (fun _ => rfl) rfl (fun _ => rfl) rfl (fun _ => by omega)) rfl rfl ?_
    refine RunD.op (ok_ldP rfl (fun _ => rfl) rfl) rfl rfl ?_
    refine RunD.op (ok_assign rfl (fun _ => rfl)) rfl rfl ?_
    refine RunD.z ?_
    refine TrL.op (ok_assign rfl (fun _ => rfl)) rfl rfl ?_
    refine TrL.fin ?_
    refine End.nxt ?_
    refine Tr.ret ?_
    refine Rts.thn ?_
    exact Rts.res (fn := Tryd.f72) (ts := [4, 5]) rfl rfl (.i rfl (by unfold endF; rw [if_pos h1]) <| .i rfl (by unfold endT; rw [if_pos h1]) <| .nil)
  · intro h1
    replace h1 := Int.not_lt.1 (of_decide_eq_false h1)
    have a1 := v.ui (i := (e - o.1.length).toNat) (by omega)
    refine Tr.skip ?_
    refine End.nxt ?_
    refine Tr.seq ?_
    refine Tr.draw 31 mixed (by kernel_rfl) ?_
    refine RunD.op (ok_move rfl (fun _ => rfl)) rfl rfl ?_
    refine RunD.op (ok_nilP rfl (fun _ => rfl)) rfl rfl ?_
    refine RunD.op (ok_fldP rfl (fun _ => rfl) rfl) rfl rfl ?_
    refine RunD.op (ok_ldP rfl (fun _ => rfl) rfl) rfl rfl ?_
    refine RunD.op (ok_move rfl (fun _ => rfl)) rfl rfl ?_
    refine RunD.op (ok_move rfl (fun _ => rfl)) rfl rfl ?_
    refine RunD.op (ok_nilP rfl (fun _ => rfl)) rfl rfl ?_
    refine RunD.op (ok_fldP rfl (fun _ => rfl) rfl) rfl rfl ?_
    refine RunD.op (ok_ldP rfl (fun _ => rfl) rfl) rfl rfl ?_
    refine RunD.op (ok_sub rfl (fun _ => rfl) rfl (fun _ => rfl) (fun _ => by omega)) rfl rfl ?_
    first | refine RunD.op (ok_idxN rfl (fun _ => rfl) rfl (fun _ => rfl) rfl (fun _ => by omega)) rfl rfl ?_ | refine RunD.op (ok_idxP rfl (fun _ => rfl) rfl (fun _ => rfl) rfl (fun _ => by omega)) rfl rfl ?_
    refine RunD.op (ok_ldP rfl (fun _ => rfl) rfl) rfl rfl ?_
    refine RunD.op (ok_move rfl (fun _ => rfl)) rfl rfl ?_
    refine RunD.op (ok_nilP rfl (fun _ => rfl)) rfl rfl ?_
    refine RunD.op (ok_fldP rfl (fun _ => rfl) rfl) rfl rfl ?_
    refine RunD.op (ok_ldP rfl (fun _ => rfl) rfl) rfl rfl ?_
    refine RunD.op (ok_move rfl (fun _ => rfl)) rfl rfl ?_
    refine RunD.op (ok_nilP rfl (fun _ => rfl)) rfl rfl ?_
    refine RunD.op (ok_fldP rfl (fun _ => rfl) rfl) rfl rfl ?_
    refine RunD.op (ok_ldP rfl (fun _ => rfl) rfl) rfl rfl ?_
    refine RunD.op (ok_move rfl (fun _ => rfl)) rfl rfl ?_
    refine RunD.op (ok_move rfl (fun _ => rfl)) rfl rfl ?_
    refine RunD.op (ok_nilP rfl (fun _ => rfl)) rfl rfl ?_
    refine RunD.op (ok_fldP rfl (fun _ => rfl) rfl) rfl rfl ?_
    refine RunD.op (ok_ldP rfl (fun _ => rfl) rfl) rfl rfl ?_
    refine RunD.op (ok_sub rfl (fun _ => rfl) rfl (fun _ => rfl) (fun _ => by omega)) rfl rfl ?_
    first | refine RunD.op (ok_idxN rfl (fun _ => rfl) rfl (fun _ => rfl) rfl (fun _ => by omega)) rfl rfl ?_ | refine RunD.op (ok_idxP rfl (fun _ => rfl) rfl (fun _ => rfl) rfl (fun _ => by omega)) rfl rfl ?_
    refine RunD.op (ok_ldP rfl (fun _ => rfl) rfl) rfl rfl ?_
    first | refine RunD.op (ok_idxN rfl (fun _ => rfl) rfl (fun _ => rfl) rfl (fun _ => by omega)) rfl rfl ?_ | refine RunD.op (ok_idxP rfl (fun _ => rfl) rfl (fun _ => rfl) rfl (fun _ => by omega)) rfl rfl ?_
    refine RunD.op (ok_ldP rfl (fun _ => rfl) rfl) rfl rfl ?_
    refine RunD.op (ok_assign rfl (fun _ => rfl)) rfl rfl ?_
    refine RunD.z ?_
    refine TrL.op (ok_assign rfl (fun _ => rfl)) rfl rfl ?_
    refine TrL.fin ?_
    refine End.nxt ?_
    refine Tr.ret ?_
    exact Rts.res (fn := Tryd.f72) (ts := [4, 5]) rfl rfl (.i rfl (by unfold endF; rw [if_neg (by omega)]) <| .i rfl (by unfold endT; rw [if_neg (by omega)]) <| .nil)

set_option maxRecDepth 100000 in
theorem ct_inRange1 (x : Int) : Ct Tryd.prog 78 [kI x] (kB (outC x)) := by
  refine Ct.mk Tryd.func78 rfl Tryd.ntmps78 rfl (fun w J => ?_)
  refine Tr.seq ?_
  refine Tr.rg ?_
  refine TrL.op (ok_assign rfl (fun _ => rfl)) rfl rfl ?_
  refine TrL.fin ?_
  refine End.nxt ?_
  refine Tr.seq ?_
  refine Tr.rg ?_
  refine TrL.op (ok_move rfl (fun _ => rfl)) rfl rfl ?_
  refine TrL.op (ok_lss rfl (fun _ => rfl) rfl (fun _ => rfl)) rfl rfl ?_
  refine TrL.op (ok_move rfl (fun _ => rfl)) rfl rfl ?_
  refine TrL.gd rfl rfl rfl (ok_move rfl (fun _ => rfl)) rfl rfl ?_
  refine TrL.gd rfl rfl rfl (ok_gtr rfl id rfl (fun _ => rfl)) rfl rfl ?_
  refine TrL.op (ok_or rfl (fun _ => rfl) rfl (fun hp h => gdF2 ((fun _ => rfl) hp) h)) rfl rfl ?_
  refine TrL.op (ok_assign rfl (fun _ => rfl)) rfl rfl ?_
  refine TrL.fin ?_
  refine End.nxt ?_
  refine Tr.ret ?_
  exact Rts.res1 (fn := Tryd.f78) rfl (.b rfl (Bool.decide_or _ _).symm <| .nil)

set_option maxRecDepth 100000 in
theorem ct_IndexFunc (xs : List Int) (f : FuncId) (q : Int → Bool) [TyFn Tryd.prog f] (hf : ∀ x, Ct Tryd.prog f [kI x] (kB (q x))) : Ct Tryd.prog 99 [kRd (eL eI) xs, kDet (.func (.func f) #[] #[])] (kI (idxF q xs)) := by
  refine Ct.mk Tryd.func99 rfl Tryd.ntmps99 rfl (fun w J => ?_)
  refine Tr.fact (s := 0) rfl (fun _ _ h => lenB h) (fun hb => ?_)
  refine Tr.seq ?_
  refine Tr.rg ?_
  refine TrL.op (ok_assign rfl (fun _ => rfl)) rfl rfl ?_
  refine TrL.fin ?_
  refine End.nxt ?_
  refine Tr.seq ?_
  refine Tr.seq ?_
  refine Tr.rg ?_
  refine TrL.op (ok_move rfl (fun _ => rfl)) rfl rfl ?_
  refine TrL.op (ok_lenJ rfl (fun _ => rfl)) rfl rfl ?_
  refine TrL.op (ok_move rfl (fun _ => rfl)) rfl rfl ?_
  refine TrL.fin ?_
  refine End.nxt ?_
  refine Tr.for1 (σ := Nat) [⟨0, true, _, _⟩, ⟨1, true, _, _⟩, ⟨7, true, _, _⟩] [] (fun k => [⟨8, true, [], kI (k : Int)⟩]) (fun k => []) (fun k => k ≤ xs.length ∧ ∀ i, i < k → q (nth xs i) = false) (fun k => ∀ i, i < xs.length → q (nth xs i) = false) (fun k => xs.length - k) (0) ⟨by omega, fun i h => absurd h (by omega)⟩ (Ent.mk (.i rfl (by first | rfl | omega | (simp; done) | (simp; omega) | assumption) <| .k rfl rfl <| .k rfl rfl <| .k rfl rfl <| .nil) (.nil) rfl) ?_ ?_
  · rintro k ⟨hk, hR⟩
    refine Tr.norm (S' := [⟨8, true, _, _⟩, ⟨0, true, _, _⟩, ⟨1, true, _, _⟩, ⟨7, true, _, _⟩]) (M' := []) rfl rfl ?_
    refine Tr.seq ?_
    refine Tr.rg ?_
    refine TrL.op (ok_lss rfl (fun _ => rfl) rfl (fun _ => rfl)) rfl rfl ?_
    refine TrL.fin ?_
    refine End.nxt ?_
    refine Tr.seq ?_
    refine Tr.cnd rfl ?_ ?_
    · intro h2
      replace h2 := of_decide_eq_true h2
      refine Tr.skip ?_
      refine End.nxt ?_
      refine Tr.seq ?_
      refine Tr.blk ?_
      refine Tr.seq ?_
      refine Tr.rg ?_
      refine TrL.op (ok_move rfl (fun _ => rfl)) rfl rfl ?_
      refine TrL.op (ok_assign rfl (fun _ => rfl)) rfl rfl ?_
      refine TrL.fin ?_
      refine End.nxt ?_
      refine Tr.seq ?_
      refine Tr.rg ?_
      refine TrL.op (ok_move rfl (fun _ => rfl)) rfl rfl ?_
      refine TrL.op (ok_move rfl (fun _ => rfl)) rfl rfl ?_
      refine TrL.op (ok_move rfl (fun _ => rfl)) rfl rfl ?_
      first | refine TrL.op (ok_idxN rfl (fun _ => rfl) rfl (fun _ => rfl) rfl (fun _ => by omega)) rfl rfl ?_ | refine TrL.op (ok_idxP rfl (fun _ => rfl) rfl (fun _ => rfl) rfl (fun _ => by omega)) rfl rfl ?_
      refine TrL.op (ok_ldP rfl (fun _ => rfl) rfl) rfl rfl ?_
      refine TrL.op (ok_callV rfl (fun _ => rfl) (fun hp => hf _) (.a rfl (fun _ => rfl) <| .nil)) rfl rfl ?_
      refine TrL.fin ?_
      refine End.nxt ?_
      refine Tr.cnd rfl ?_ ?_
      · intro h4
        refine Tr.seq ?_
        refine Tr.rg ?_
        refine TrL.op (ok_move rfl (fun _ => rfl)) rfl rfl ?_
        refine TrL.op (ok_assign rfl (fun _ => rfl)) rfl rfl ?_
        refine TrL.fin ?_
        refine End.nxt ?_
        refine Tr.ret ?_
        refine Rts.out ?_
        refine Rts.thn ?_
        refine Rts.thn ?_
        refine Rts.out ?_
        refine Rts.thn ?_
        refine Rts.thn ?_
        exact Rts.res1 (fn := Tryd.f99) rfl (.i rfl (idxF_at (by omega) hR h4) <| .nil)
      · intro h4
        refine Tr.skip ?_
        refine End.blk ?_
        refine End.nxt ?_
        refine Tr.rg ?_
        refine TrL.op (ok_add rfl (fun _ => rfl) rfl (fun _ => rfl) (fun _ => by omega)) rfl rfl ?_
        refine TrL.op (ok_move rfl (fun _ => rfl)) rfl rfl ?_
        refine TrL.fin ?_
        exact End.lp (k + 1) ⟨by omega, fun i hi => by (rcases Nat.lt_succ_iff_lt_or_eq.1 hi with h | h; exact hR i h; subst h; exact h4)⟩ (by omega) (Ent.mk (.i rfl (by first | rfl | omega | (simp; done) | (simp; omega) | assumption) <| .k rfl rfl <| .k rfl rfl <| .k rfl rfl <| .nil) (.nil) rfl)
    · intro h2
      replace h2 := Int.not_lt.1 (of_decide_eq_false h2)
      refine Tr.exit ?_
      refine Exs.thn ?_
      refine Exs.thn ?_
      refine Exs.here ?_
      exact End.cut (k) (fun i hi => hR i (by omega)) (Ent.mk (.i rfl (by first | rfl | omega | (simp; done) | (simp; omega) | assumption) <| .k rfl rfl <| .k rfl rfl <| .k rfl rfl <| .nil) (.nil) rfl)
  · intro k hE
    refine End.norm (S' := [⟨8, true, _, _⟩, ⟨0, true, _, _⟩, ⟨1, true, _, _⟩, ⟨7, true, _, _⟩]) (M' := []) rfl rfl ?_
    refine End.nxt ?_
    refine Tr.seq ?_
    refine Tr.rg ?_
    refine TrL.op (ok_assign rfl (fun _ => rfl)) rfl rfl ?_
    refine TrL.fin ?_
    refine End.nxt ?_
    refine Tr.ret ?_
    exact Rts.res1 (fn := Tryd.f99) rfl (.i rfl (idxF_none hE) <| .nil)

set_option maxRecDepth 100000 in
theorem ct_ContainsFunc (xs : List Int) (f : FuncId) (q : Int → Bool) [TyFn Tryd.prog f] (hf : ∀ x, Ct Tryd.prog f [kI x] (kB (q x))) : Ct Tryd.prog 70 [kRd (eL eI) xs, kDet (.func (.func f) #[] #[])] (kB (xs.any q)) := by
  refine Ct.mk Tryd.func70 rfl Tryd.ntmps70 rfl (fun w J => ?_)
  refine Tr.seq ?_
  refine Tr.rg ?_
  refine TrL.op (ok_assign rfl (fun _ => rfl)) rfl rfl ?_
  refine TrL.fin ?_
  refine End.nxt ?_
  refine Tr.seq ?_
  refine Tr.rg ?_
  refine TrL.op (ok_move rfl (fun _ => rfl)) rfl rfl ?_
  refine TrL.op (ok_move rfl (fun _ => rfl)) rfl rfl ?_
  refine TrL.op (ok_call (fun hp => ct_IndexFunc _ f q hf) (.a rfl (fun _ => rfl) <| .a rfl (fun _ => rfl) <| .nil)) rfl rfl ?_
  refine TrL.op (ok_geq rfl (fun _ => rfl) rfl (fun _ => rfl)) rfl rfl ?_
  refine TrL.op (ok_assign rfl (fun _ => rfl)) rfl rfl ?_
  refine TrL.fin ?_
  refine End.nxt ?_
  refine Tr.ret ?_
  exact Rts.res1 (fn := Tryd.f70) rfl (.b rfl idxF_nonneg <| .nil)

set_option maxRecDepth 100000 in
theorem ct_inRange (c : List Int) : Ct Tryd.prog 64 [kRd (eL eI) c] (kI (rngC c)) := by
  refine Ct.mk Tryd.func64 rfl Tryd.ntmps64 rfl (fun w J => ?_)
  refine Tr.seq ?_
  refine Tr.rg ?_
  refine TrL.op (ok_assign rfl (fun _ => rfl)) rfl rfl ?_
  refine TrL.fin ?_
  refine End.nxt ?_
  refine Tr.seq ?_
  refine Tr.seq ?_
  refine Tr.rg ?_
  refine TrL.op (ok_move rfl (fun _ => rfl)) rfl rfl ?_
  refine TrL.op (ok_call (fun hp => ct_ContainsFunc _ 78 outC (fun x => ct_inRange1 x)) (.a rfl (fun _ => rfl) <| .a rfl (fun _ => rfl) <| .nil)) rfl rfl ?_
  refine TrL.fin ?_
  refine End.nxt ?_
  refine Tr.cnd rfl ?_ ?_
  · intro h1
    refine Tr.seq ?_
    refine Tr.rg ?_
    refine TrL.op (ok_assign rfl (fun _ => rfl)) rfl rfl ?_
    refine TrL.fin ?_
    refine End.nxt ?_
    refine Tr.ret ?_
    refine Rts.thn ?_
    exact Rts.res1 (fn := Tryd.f64) rfl (.i rfl (by unfold rngC; rw [if_pos h1]) <| .nil)
  · intro h1
    refine Tr.skip ?_
    refine End.nxt ?_
    refine Tr.seq ?_
    refine Tr.rg ?_
    refine TrL.op (ok_assign rfl (fun _ => rfl)) rfl rfl ?_
    refine TrL.fin ?_
    refine End.nxt ?_
    refine Tr.ret ?_
    exact Rts.res1 (fn := Tryd.f64) rfl (.i rfl (by unfold rngC; rw [if_neg (by rw [h1]; simp)]) <| .nil)

set_option maxRecDepth 100000 in
theorem ct_checkChain (o : Ori) (v : Valid o) (c : List Int) : Ct Tryd.prog 42 [kPtr eG (gridOf o), kRd (eL eI) c] (kI (chkC o.1.length c)) := by
  have hv0 := v.pos
  have hv1 := v.len
  have hv2 := v.le
  have hl1 := invL_len o.1
  have hl2 := invL_len o.2
  have hl3 := vertL_len (o := o)
  have hl4 := vtx_le (o := o)
  refine Ct.mk Tryd.func42 rfl Tryd.ntmps42 rfl (fun w J => ?_)
  refine Tr.seq ?_
  refine Tr.rg ?_
  refine TrL.op (ok_assign rfl (fun _ => rfl)) rfl rfl ?_
  refine TrL.fin ?_
  refine End.nxt ?_
  refine Tr.seq ?_
  refine Tr.seq ?_
  refine Tr.rg ?_
  refine TrL.op (ok_move rfl (fun _ => rfl)) rfl rfl ?_
  refine TrL.op (ok_lenJ rfl (fun _ => rfl)) rfl rfl ?_
  refine TrL.op (ok_move rfl (fun _ => rfl)) rfl rfl ?_
  refine TrL.op (ok_nilP rfl (fun _ => rfl)) rfl rfl ?_
  refine TrL.op (ok_fldP rfl (fun _ => rfl) rfl) rfl rfl ?_
  refine TrL.op (ok_ldP rfl (fun _ => rfl) rfl) rfl rfl ?_
  refine TrL.op (ok_mul rfl (fun _ => rfl) rfl (fun _ => rfl) (fun _ => by omega)) rfl rfl ?_
  refine TrL.op (ok_neq rfl (fun _ => rfl) rfl (fun _ => rfl)) rfl rfl ?_
  refine TrL.fin ?_
  refine End.nxt ?_
  refine Tr.cnd rfl ?_ ?_
  · intro h1
    replace h1 := of_decide_eq_true h1
    refine Tr.seq ?_
    refine Tr.rg ?_
    refine TrL.op (ok_assign rfl (fun _ => rfl)) rfl rfl ?_
    refine TrL.fin ?_
    refine End.nxt ?_
    refine Tr.ret ?_
    refine Rts.thn ?_
    exact Rts.res1 (fn := Tryd.f42) rfl (.i rfl (by unfold chkC; rw [if_pos (by omega)]) <| .nil)
  · intro h1
    replace h1 := Classical.not_not.1 (of_decide_eq_false h1)
    refine Tr.skip ?_
    refine End.nxt ?_
    refine Tr.seq ?_
    refine Tr.rg ?_
    refine TrL.op (ok_move rfl (fun _ => rfl)) rfl rfl ?_
    refine TrL.op (ok_call (fun hp => ct_inRange _) (.a rfl (fun _ => rfl) <| .nil)) rfl rfl ?_
    refine TrL.op (ok_assign rfl (fun _ => rfl)) rfl rfl ?_
    refine TrL.fin ?_
    refine End.nxt ?_
    refine Tr.ret ?_
    exact Rts.res1 (fn := Tryd.f42) rfl (.i rfl (by unfold chkC; rw [if_neg (by omega)]) <| .nil)

set_option maxRecDepth 100000 in
theorem ct_boundary (o : Ori) (v : Valid o) (c : List Int) (hc : c.length = 2 * o.1.length) : Ct Tryd.prog 53 [kPtr eG (gridOf o), kRd (eL eI) c] (kRd (eL eI) (bndW o c)) := by
  have hv0 := v.pos
  have hv1 := v.len
  have hv2 := v.le
  have hl1 := invL_len o.1
  have hl2 := invL_len o.2
  have hl3 := vertL_len (o := o)
  have hl4 := vtx_le (o := o)
  refine Ct.mk Tryd.func53 rfl Tryd.ntmps53 rfl (fun w J => ?_)
  refine Tr.seq ?_
  refine Tr.rg ?_
  refine TrL.op (ok_assign rfl (fun _ => rfl)) rfl rfl ?_
  refine TrL.fin ?_
  refine End.nxt ?_
  refine Tr.seq ?_
  refine Tr.rg ?_
  refine TrL.op (ok_move rfl (fun _ => rfl)) rfl rfl ?_
  refine TrL.op (ok_nilP rfl (fun _ => rfl)) rfl rfl ?_
  refine TrL.op (ok_fldP rfl (fun _ => rfl) rfl) rfl rfl ?_
  refine TrL.op (ok_ldP rfl (fun _ => rfl) rfl) rfl rfl ?_
  refine TrL.op (ok_lenJ rfl (fun _ => rfl)) rfl rfl ?_
  refine TrL.new (ok_makeN eI 15 rfl (fun _ => rfl) rfl (fun _ => rfl) rfl rfl rfl (fun _ => by omega)) rfl rfl rfl rfl ?_
  refine TrL.op (ok_assign rfl (fun _ => rfl)) rfl rfl ?_
  refine TrL.fin ?_
  refine End.nxt ?_
  refine Tr.seq ?_
  refine Tr.seq ?_
  refine Tr.rg ?_
  refine TrL.op (ok_move rfl (fun _ => rfl)) rfl rfl ?_
  refine TrL.op (ok_lenJ rfl (fun _ => rfl)) rfl rfl ?_
  refine TrL.op (ok_move rfl (fun _ => rfl)) rfl rfl ?_
  refine TrL.fin ?_
  refine End.nxt ?_
  refine Tr.for1 (σ := Nat) [⟨0, true, _, _⟩, ⟨5, true, _, _⟩, ⟨16, true, _, _⟩, ⟨17, true, _, _⟩] [] (fun k => [⟨18, true, [], kI (k : Int)⟩]) (fun k => [⟨15, [], cArr false 3 eI (bndT o c k) (vtx o).length⟩]) (fun k => k ≤ c.length) (fun k => k = c.length) (fun k => c.length - k) (0) (by first | rfl | omega | (simp; done) | (simp; omega) | assumption) (Ent.mk (.i rfl (by first | rfl | omega | (simp; done) | (simp; omega) | assumption) <| .k rfl rfl <| .k rfl rfl <| .k rfl rfl <| .k rfl rfl <| .nil) (.a bndT_zero (by first | rfl | omega | (simp; done) | (simp; omega) | assumption) <| .nil) rfl) ?_ ?_
  · intro k hR0
    refine Tr.norm (S' := [⟨18, true, _, _⟩, ⟨0, true, _, _⟩, ⟨5, true, _, _⟩, ⟨16, true, _, _⟩, ⟨17, true, _, _⟩]) (M' := [⟨15, _, _⟩]) rfl rfl ?_
    refine Tr.seq ?_
    refine Tr.rg ?_
    refine TrL.op (ok_lss rfl (fun _ => rfl) rfl (fun _ => rfl)) rfl rfl ?_
    refine TrL.fin ?_
    refine End.nxt ?_
    refine Tr.seq ?_
    refine Tr.cnd rfl ?_ ?_
    · intro h3
      replace h3 := of_decide_eq_true h3
      refine Tr.skip ?_
      refine End.nxt ?_
      refine Tr.seq ?_
      refine Tr.blk ?_
      refine Tr.seq ?_
      refine Tr.rg ?_
      refine TrL.op (ok_move rfl (fun _ => rfl)) rfl rfl ?_
      first | refine TrL.op (ok_idxN rfl (fun _ => rfl) rfl (fun _ => rfl) rfl (fun _ => by omega)) rfl rfl ?_ | refine TrL.op (ok_idxP rfl (fun _ => rfl) rfl (fun _ => rfl) rfl (fun _ => by omega)) rfl rfl ?_
      refine TrL.op (ok_ldP rfl (fun _ => rfl) rfl) rfl rfl ?_
      refine TrL.op (ok_assign rfl (fun _ => rfl)) rfl rfl ?_
      refine TrL.op (ok_assign rfl (fun _ => rfl)) rfl rfl ?_
      refine TrL.fin ?_
      refine End.nxt ?_
      refine Tr.seq ?_
      refine Tr.rg ?_
      have hf := endF_rng v (e := k) (by omega) (by omega)
      have ht := endT_rng v (e := k) (by omega) (by omega)
      refine TrL.op (ok_move rfl (fun _ => rfl)) rfl rfl ?_
      refine TrL.op (ok_move rfl (fun _ => rfl)) rfl rfl ?_
      refine TrL.op (ok_call (fun hp => ct_ends _ v _ (by omega) (by omega)) (.a rfl (fun _ => rfl) <| .a rfl (fun _ => rfl) <| .nil)) rfl rfl ?_
      refine TrL.op (ok_move rfl (fun _ => rfl)) rfl rfl ?_
      refine TrL.op (ok_ext rfl (fun _ => rfl) rfl) rfl rfl ?_
      refine TrL.op (ok_ext rfl (fun _ => rfl) rfl) rfl rfl ?_
      refine TrL.op (ok_assign rfl (fun _ => rfl)) rfl rfl ?_
      refine TrL.op (ok_assign rfl (fun _ => rfl)) rfl rfl ?_
      refine TrL.fin ?_
      refine End.nxt ?_
      refine Tr.seq ?_
      refine Tr.rg ?_
      refine TrL.op (ok_move rfl (fun _ => rfl)) rfl rfl ?_
      refine TrL.op (ok_move rfl (fun _ => rfl)) rfl rfl ?_
      first | refine TrL.op (ok_idxEN rfl (fun _ => rfl) rfl (fun _ => rfl) (fun _ => by omega)) rfl rfl ?_ | refine TrL.op (ok_idxE rfl (fun _ => rfl) rfl (fun _ => rfl) (fun _ => by omega)) rfl rfl ?_
      refine TrL.op (ok_ldE rfl (fun _ => rfl) rfl rfl rfl) rfl rfl ?_
      refine TrL.op (ok_move rfl (fun _ => rfl)) rfl rfl ?_
      refine TrL.op (ok_subW rfl (fun _ => rfl) rfl (fun _ => rfl)) rfl rfl ?_
      first | refine TrL.op (ok_idxEN rfl (fun _ => rfl) rfl (fun _ => rfl) (fun _ => by omega)) rfl rfl ?_ | refine TrL.op (ok_idxE rfl (fun _ => rfl) rfl (fun _ => rfl) (fun _ => by omega)) rfl rfl ?_
      refine TrL.stE rfl rfl rfl rfl rfl ?_
      refine TrL.fin ?_
      refine End.nxt ?_
      refine Tr.rg ?_
      refine TrL.op (ok_move rfl (fun _ => rfl)) rfl rfl ?_
      refine TrL.op (ok_move rfl (fun _ => rfl)) rfl rfl ?_
      first | refine TrL.op (ok_idxEN rfl (fun _ => rfl) rfl (fun _ => rfl) (fun _ => by omega)) rfl rfl ?_ | refine TrL.op (ok_idxE rfl (fun _ => rfl) rfl (fun _ => rfl) (fun _ => by omega)) rfl rfl ?_
      refine TrL.op (ok_ldE rfl (fun _ => rfl) rfl rfl rfl) rfl rfl ?_
      refine TrL.op (ok_move rfl (fun _ => rfl)) rfl rfl ?_
      refine TrL.op (ok_addW rfl (fun _ => rfl) rfl (fun _ => rfl)) rfl rfl ?_
      first | refine TrL.op (ok_idxEN rfl (fun _ => rfl) rfl (fun _ => rfl) (fun _ => by omega)) rfl rfl ?_ | refine TrL.op (ok_idxE rfl (fun _ => rfl) rfl (fun _ => rfl) (fun _ => by omega)) rfl rfl ?_
      refine TrL.stE rfl rfl rfl rfl rfl ?_
      refine TrL.fin ?_
      refine End.blk ?_
      refine End.nxt ?_
      refine Tr.rg ?_
      refine TrL.op (ok_add rfl (fun _ => rfl) rfl (fun _ => rfl) (fun _ => by omega)) rfl rfl ?_
      refine TrL.op (ok_move rfl (fun _ => rfl)) rfl rfl ?_
      refine TrL.fin ?_
      exact End.lp (k + 1) (by first | rfl | omega | (simp; done) | (simp; omega) | assumption) (by omega) (Ent.mk (.i rfl (by first | rfl | omega | (simp; done) | (simp; omega) | assumption) <| .k rfl rfl <| .k rfl rfl <| .k rfl rfl <| .k rfl rfl <| .nil) (.a (bndT_succ v (by omega)) (by first | rfl | omega | (simp; done) | (simp; omega) | assumption) <| .nil) rfl)
    · intro h3
      replace h3 := Int.not_lt.1 (of_decide_eq_false h3)
      refine Tr.exit ?_
      refine Exs.thn ?_
      refine Exs.thn ?_
      refine Exs.here ?_
      exact End.cut (k) (by omega) (Ent.mk (.i rfl (by first | rfl | omega | (simp; done) | (simp; omega) | assumption) <| .k rfl rfl <| .k rfl rfl <| .k rfl rfl <| .k rfl rfl <| .nil) (.a (by first | rfl | omega | (simp; done) | (simp; omega) | assumption) (by first | rfl | omega | (simp; done) | (simp; omega) | assumption) <| .nil) rfl)
  · rintro _ rfl
    refine End.norm (S' := [⟨18, true, _, _⟩, ⟨0, true, _, _⟩, ⟨5, true, _, _⟩, ⟨16, true, _, _⟩, ⟨17, true, _, _⟩]) (M' := [⟨15, _, _⟩]) rfl rfl ?_
    refine End.nxt ?_
    refine Tr.seq ?_
    refine Tr.rg ?_
    refine TrL.op (ok_move rfl (fun _ => rfl)) rfl rfl ?_
    refine TrL.op (ok_assign rfl (fun _ => rfl)) rfl rfl ?_
    refine TrL.fin ?_
    refine End.nxt ?_
    refine Tr.frz 15 [4] ⟨rfl, trivial⟩ (by simp only [lenMax]; omega) rfl ?_
    refine Tr.ret ?_
    exact Rts.res1 (fn := Tryd.f53) rfl (.r rfl (by first | rfl | omega | (simp; done) | (simp; omega) | assumption) <| .nil)

set_option maxRecDepth 100000 in
theorem ct_checkCycle1 (x : Int) : Ct Tryd.prog 71 [kI x] (kB (nz x)) := by
  refine Ct.mk Tryd.func71 rfl Tryd.ntmps71 rfl (fun w J => ?_)
  refine Tr.seq ?_
  refine Tr.rg ?_
  refine TrL.op (ok_assign rfl (fun _ => rfl)) rfl rfl ?_
  refine TrL.fin ?_
  refine End.nxt ?_
  refine Tr.seq ?_
  refine Tr.rg ?_
  refine TrL.op (ok_move rfl (fun _ => rfl)) rfl rfl ?_
  refine TrL.op (ok_neq rfl (fun _ => rfl) rfl (fun _ => rfl)) rfl rfl ?_
  refine TrL.op (ok_assign rfl (fun _ => rfl)) rfl rfl ?_
  refine TrL.fin ?_
  refine End.nxt ?_
  refine Tr.ret ?_
  exact Rts.res1 (fn := Tryd.f71) rfl (.b rfl (by first | rfl | omega | (simp; done) | (simp; omega) | assumption) <| .nil)

set_option maxRecDepth 100000 in
theorem ct_checkCycle (o : Ori) (v : Valid o) (c : List Int) : Ct Tryd.prog 51 [kPtr eG (gridOf o), kRd (eL eI) c] (kI (chkZ o c)) := by
  refine Ct.mk Tryd.func51 rfl Tryd.ntmps51 rfl (fun w J => ?_)
  refine Tr.seq ?_
  refine Tr.rg ?_
  refine TrL.op (ok_assign rfl (fun _ => rfl)) rfl rfl ?_
  refine TrL.fin ?_
  refine End.nxt ?_
  refine Tr.seq ?_
  refine Tr.seq ?_
  refine Tr.rg ?_
  refine TrL.op (ok_move rfl (fun _ => rfl)) rfl rfl ?_
  refine TrL.op (ok_move rfl (fun _ => rfl)) rfl rfl ?_
  refine TrL.op (ok_call (fun hp => ct_checkChain _ v _) (.a rfl (fun _ => rfl) <| .a rfl (fun _ => rfl) <| .nil)) rfl rfl ?_
  refine TrL.op (ok_assign rfl (fun _ => rfl)) rfl rfl ?_
  refine TrL.fin ?_
  refine End.nxt ?_
  refine Tr.seq ?_
  refine Tr.rg ?_
  refine TrL.op (ok_move rfl (fun _ => rfl)) rfl rfl ?_
  refine TrL.op (ok_neq rfl (fun _ => rfl) rfl (fun _ => rfl)) rfl rfl ?_
  refine TrL.fin ?_
  refine End.nxt ?_
  refine Tr.cnd rfl ?_ ?_
  · intro h2
    replace h2 := of_decide_eq_true h2
    refine Tr.seq ?_
    refine Tr.rg ?_
    refine TrL.op (ok_move rfl (fun _ => rfl)) rfl rfl ?_
    refine TrL.op (ok_assign rfl (fun _ => rfl)) rfl rfl ?_
    refine TrL.fin ?_
    refine End.nxt ?_
    refine Tr.ret ?_
    refine Rts.thn ?_
    exact Rts.res1 (fn := Tryd.f51) rfl (.i rfl (by unfold chkZ; rw [orE_l h2]) <| .nil)
  · intro h2
    replace h2 := Classical.not_not.1 (of_decide_eq_false h2)
    have hcl := chkC_len h2
    refine Tr.skip ?_
    refine End.nxt ?_
    refine Tr.seq ?_
    refine Tr.seq ?_
    refine Tr.rg ?_
    refine TrL.op (ok_move rfl (fun _ => rfl)) rfl rfl ?_
    refine TrL.op (ok_move rfl (fun _ => rfl)) rfl rfl ?_
    refine TrL.op (ok_call (fun hp => ct_boundary _ v _ (by assumption)) (.a rfl (fun _ => rfl) <| .a rfl (fun _ => rfl) <| .nil)) rfl rfl ?_
    refine TrL.op (ok_call (fun hp => ct_ContainsFunc _ 71 nz (fun x => ct_checkCycle1 x)) (.a rfl (fun _ => rfl) <| .a rfl (fun _ => rfl) <| .nil)) rfl rfl ?_
    refine TrL.fin ?_
    refine End.nxt ?_
    refine Tr.cnd rfl ?_ ?_
    · intro h4
      refine Tr.seq ?_
      refine Tr.rg ?_
      refine TrL.op (ok_assign rfl (fun _ => rfl)) rfl rfl ?_
      refine TrL.fin ?_
      refine End.nxt ?_
      refine Tr.ret ?_
      refine Rts.thn ?_
      exact Rts.res1 (fn := Tryd.f51) rfl (.i rfl (by unfold chkZ; rw [orE_r h2, if_pos h4]) <| .nil)
    · intro h4
      refine Tr.skip ?_
      refine End.nxt ?_
      refine Tr.seq ?_
      refine Tr.rg ?_
      refine TrL.op (ok_assign rfl (fun _ => rfl)) rfl rfl ?_
      refine TrL.fin ?_
      refine End.nxt ?_
      refine Tr.ret ?_
      exact Rts.res1 (fn := Tryd.f51) rfl (.i rfl (by unfold chkZ; rw [orE_r h2, if_neg (by rw [h4]; simp)]) <| .nil)

set_option maxRecDepth 100000 in
theorem ct_checkCycles (o : Ori) (v : Valid o) (l : List (List Int)) : Ct Tryd.prog 54 [kPtr eG (gridOf o), kRd (eL (eL eI)) l] (kI (chkZs o l)) := by
  refine Ct.mk Tryd.func54 rfl Tryd.ntmps54 rfl (fun w J => ?_)
  refine Tr.seq ?_
  refine Tr.rg ?_
  refine TrL.op (ok_assign rfl (fun _ => rfl)) rfl rfl ?_
  refine TrL.fin ?_
  refine End.nxt ?_
  refine Tr.seq ?_
  refine Tr.seq ?_
  refine Tr.rg ?_
  refine TrL.op (ok_move rfl (fun _ => rfl)) rfl rfl ?_
  refine TrL.op (ok_lenJ rfl (fun _ => rfl)) rfl rfl ?_
  refine TrL.op (ok_gtr rfl (fun _ => rfl) rfl (fun _ => rfl)) rfl rfl ?_
  refine TrL.fin ?_
  refine End.nxt ?_
  refine Tr.cnd rfl ?_ ?_
  · intro h1
    replace h1 := of_decide_eq_true h1
    refine Tr.seq ?_
    refine Tr.rg ?_
    refine TrL.op (ok_assign rfl (fun _ => rfl)) rfl rfl ?_
    refine TrL.fin ?_
    refine End.nxt ?_
    refine Tr.ret ?_
    refine Rts.thn ?_
    exact Rts.res1 (fn := Tryd.f54) rfl (.i rfl (by unfold chkZs; rw [if_pos (by omega)]) <| .nil)
  · intro h1
    replace h1 := Int.not_lt.1 (of_decide_eq_false h1)
    refine Tr.skip ?_
    refine End.nxt ?_
    refine Tr.seq ?_
    refine Tr.seq ?_
    refine Tr.rg ?_
    refine TrL.op (ok_move rfl (fun _ => rfl)) rfl rfl ?_
    refine TrL.op (ok_lenJ rfl (fun _ => rfl)) rfl rfl ?_
    refine TrL.op (ok_move rfl (fun _ => rfl)) rfl rfl ?_
    refine TrL.fin ?_
    refine End.nxt ?_
    refine Tr.for1 (σ := Nat) [⟨0, true, _, _⟩, ⟨11, true, _, _⟩, ⟨12, true, _, _⟩] [] (fun k => [⟨13, true, [], kI (k : Int)⟩]) (fun k => []) (fun k => k ≤ l.length ∧ ∀ i, i < k → nth (l.map (chkZ o)) i = 0) (fun k => ∀ i, i < l.length → nth (l.map (chkZ o)) i = 0) (fun k => l.length - k) (0) ⟨by omega, fun i h => absurd h (by omega)⟩ (Ent.mk (.i rfl (by first | rfl | omega | (simp; done) | (simp; omega) | assumption) <| .k rfl rfl <| .k rfl rfl <| .k rfl rfl <| .nil) (.nil) rfl) ?_ ?_
    · rintro k ⟨hk, hR⟩
      refine Tr.norm (S' := [⟨13, true, _, _⟩, ⟨0, true, _, _⟩, ⟨11, true, _, _⟩, ⟨12, true, _, _⟩]) (M' := []) rfl rfl ?_
      refine Tr.seq ?_
      refine Tr.rg ?_
      refine TrL.op (ok_lss rfl (fun _ => rfl) rfl (fun _ => rfl)) rfl rfl ?_
      refine TrL.fin ?_
      refine End.nxt ?_
      refine Tr.seq ?_
      refine Tr.cnd rfl ?_ ?_
      · intro h4
        replace h4 := of_decide_eq_true h4
        refine Tr.skip ?_
        refine End.nxt ?_
        refine Tr.seq ?_
        refine Tr.blk ?_
        refine Tr.seq ?_
        refine Tr.rg ?_
        first | refine TrL.op (ok_idxN rfl (fun _ => rfl) rfl (fun _ => rfl) rfl (fun _ => by omega)) rfl rfl ?_ | refine TrL.op (ok_idxP rfl (fun _ => rfl) rfl (fun _ => rfl) rfl (fun _ => by omega)) rfl rfl ?_
        refine TrL.op (ok_ldP rfl (fun _ => rfl) rfl) rfl rfl ?_
        refine TrL.op (ok_assign rfl (fun _ => rfl)) rfl rfl ?_
        refine TrL.fin ?_
        refine End.nxt ?_
        refine Tr.seq ?_
        refine Tr.rg ?_
        refine TrL.op (ok_move rfl (fun _ => rfl)) rfl rfl ?_
        refine TrL.op (ok_move rfl (fun _ => rfl)) rfl rfl ?_
        refine TrL.op (ok_call (fun hp => ct_checkCycle _ v _) (.a rfl (fun _ => rfl) <| .a rfl (fun _ => rfl) <| .nil)) rfl rfl ?_
        refine TrL.op (ok_assign rfl (fun _ => rfl)) rfl rfl ?_
        refine TrL.fin ?_
        refine End.nxt ?_
        refine Tr.seq ?_
        refine Tr.rg ?_
        refine TrL.op (ok_move rfl (fun _ => rfl)) rfl rfl ?_
        refine TrL.op (ok_neq rfl (fun _ => rfl) rfl (fun _ => rfl)) rfl rfl ?_
        refine TrL.fin ?_
        refine End.nxt ?_
        refine Tr.cnd rfl ?_ ?_
        · intro h7
          replace h7 := of_decide_eq_true h7
          refine Tr.seq ?_
          refine Tr.rg ?_
          refine TrL.op (ok_move rfl (fun _ => rfl)) rfl rfl ?_
          refine TrL.op (ok_assign rfl (fun _ => rfl)) rfl rfl ?_
          refine TrL.fin ?_
          refine End.nxt ?_
          refine Tr.ret ?_
          refine Rts.out ?_
          refine Rts.thn ?_
          refine Rts.thn ?_
          refine Rts.out ?_
          refine Rts.thn ?_
          refine Rts.thn ?_
          exact Rts.res1 (fn := Tryd.f54) rfl (.i rfl (by unfold chkZs; rw [if_neg (by omega), fstE_at (k := k) (by rw [List.length_map]; omega) hR (by rw [nth_map (by omega)]; exact h7), nth_map (by omega)]) <| .nil)
        · intro h7
          replace h7 := Classical.not_not.1 (of_decide_eq_false h7)
          refine Tr.skip ?_
          refine End.blk ?_
          refine End.nxt ?_
          refine Tr.rg ?_
          refine TrL.op (ok_add rfl (fun _ => rfl) rfl (fun _ => rfl) (fun _ => by omega)) rfl rfl ?_
          refine TrL.op (ok_move rfl (fun _ => rfl)) rfl rfl ?_
          refine TrL.fin ?_
          exact End.lp (k + 1) ⟨by omega, fun i hi => by (rcases Nat.lt_succ_iff_lt_or_eq.1 hi with h | h; exact hR i h; subst h; rw [nth_map (by omega)]; exact h7)⟩ (by omega) (Ent.mk (.i rfl (by first | rfl | omega | (simp; done) | (simp; omega) | assumption) <| .k rfl rfl <| .k rfl rfl <| .k rfl rfl <| .nil) (.nil) rfl)
      · intro h4
        replace h4 := Int.not_lt.1 (of_decide_eq_false h4)
        refine Tr.exit ?_
        refine Exs.thn ?_
        refine Exs.thn ?_
        refine Exs.here ?_
        exact End.cut (k) (fun i hi => hR i (by omega)) (Ent.mk (.i rfl (by first | rfl | omega | (simp; done) | (simp; omega) | assumption) <| .k rfl rfl <| .k rfl rfl <| .k rfl rfl <| .nil) (.nil) rfl)
    · intro k hE
      refine End.norm (S' := [⟨13, true, _, _⟩, ⟨0, true, _, _⟩, ⟨11, true, _, _⟩, ⟨12, true, _, _⟩]) (M' := []) rfl rfl ?_
      refine End.nxt ?_
      refine Tr.seq ?_
      refine Tr.rg ?_
      refine TrL.op (ok_assign rfl (fun _ => rfl)) rfl rfl ?_
      refine TrL.fin ?_
      refine End.nxt ?_
      refine Tr.ret ?_
      exact Rts.res1 (fn := Tryd.f54) rfl (.i rfl (by unfold chkZs; rw [if_neg (by omega), fstE_zero (by rw [List.length_map]; exact hE)]) <| .nil)

set_option maxRecDepth 100000 in
theorem ct_hVertices (o : Ori) : Ct Tryd.prog 28 [kRd eO o] (kTup [kRd (eL eI) (if chkO o = 0 then vertL o else []), kI (chkO o)]) := by
  refine Ct.mk Tryd.func28 rfl Tryd.ntmps28 rfl (fun w J => ?_)
  refine Tr.seq ?_
  refine Tr.rg ?_
  refine TrL.new (ok_box 1 rfl (fun _ => rfl) rfl) rfl rfl rfl rfl ?_
  refine TrL.op (ok_assign rfl (fun _ => rfl)) rfl rfl ?_
  refine TrL.op (ok_assign rfl (fun _ => rfl)) rfl rfl ?_
  refine TrL.fin ?_
  refine End.nxt ?_
  refine Tr.seq ?_
  refine Tr.rg ?_
  refine TrL.op (ok_ldBS rfl (fun _ => rfl)) rfl rfl ?_
  refine TrL.op (ok_call (fun hp => ct_open _) (.s rfl (fun _ => rfl) rfl <| .nil)) rfl rfl ?_
  refine TrL.op (ok_move rfl (fun _ => rfl)) rfl rfl ?_
  refine TrL.op (ok_ext rfl (fun _ => rfl) rfl) rfl rfl ?_
  refine TrL.op (ok_ext rfl (fun _ => rfl) rfl) rfl rfl ?_
  refine TrL.op (ok_assign rfl (fun _ => rfl)) rfl rfl ?_
  refine TrL.op (ok_assign rfl (fun _ => rfl)) rfl rfl ?_
  refine TrL.fin ?_
  refine End.nxt ?_
  refine Tr.seq ?_
  refine Tr.seq ?_
  refine Tr.rg ?_
  refine TrL.op (ok_move rfl (fun _ => rfl)) rfl rfl ?_
  refine TrL.op (ok_neq rfl (fun _ => rfl) rfl (fun _ => rfl)) rfl rfl ?_
  refine TrL.fin ?_
  refine End.nxt ?_
  refine Tr.cnd rfl ?_ ?_
  · intro h2
    replace h2 := of_decide_eq_true h2
    refine Tr.seq ?_
    refine Tr.rg ?_
    refine TrL.op (ok_move rfl (fun _ => rfl)) rfl rfl ?_
    refine TrL.op (ok_assign rfl (fun _ => rfl)) rfl rfl ?_
    refine TrL.op (ok_assign rfl (fun _ => rfl)) rfl rfl ?_
    refine TrL.fin ?_
    refine End.nxt ?_
    refine Tr.ret ?_
    refine Rts.thn ?_
    exact Rts.res (fn := Tryd.f28) (ts := [2, 3]) rfl rfl (.n rfl (by rw [if_neg h2]) <| .i rfl (by first | rfl | omega | (simp; done) | (simp; omega) | assumption) <| .nil)
  · intro h2
    replace h2 := Classical.not_not.1 (of_decide_eq_false h2)
    refine Tr.ifT (s := 4) rfl (decide_eq_true h2) rfl ?_
    refine Tr.skip ?_
    refine End.nxt ?_
    refine Tr.seq ?_
    refine Tr.rg ?_
    refine TrL.op (ok_move rfl (fun _ => rfl)) rfl rfl ?_
    refine TrL.op (ok_nilP rfl (fun _ => rfl)) rfl rfl ?_
    refine TrL.op (ok_fldP rfl (fun _ => rfl) rfl) rfl rfl ?_
    refine TrL.op (ok_ldP rfl (fun _ => rfl) rfl) rfl rfl ?_
    refine TrL.op (ok_assign rfl (fun _ => rfl)) rfl rfl ?_
    refine TrL.op (ok_assign rfl (fun _ => rfl)) rfl rfl ?_
    refine TrL.fin ?_
    refine End.nxt ?_
    refine Tr.ret ?_
    exact Rts.res (fn := Tryd.f28) (ts := [2, 3]) rfl rfl (.r rfl (by rw [if_pos h2]) <| .i rfl h2.symm <| .nil)

set_option maxRecDepth 100000 in
theorem ct_hBoundary (o : Ori) (c : List Int) : Ct Tryd.prog 29 [kRd eO o, kRd (eL eI) c] (kTup [kRd (eL eI) (if orE (chkO o) (chkC o.1.length c) = 0 then bndW o c else []), kI (orE (chkO o) (chkC o.1.length c))]) := by
  refine Ct.mk Tryd.func29 rfl Tryd.ntmps29 rfl (fun w J => ?_)
  refine Tr.seq ?_
  refine Tr.rg ?_
  refine TrL.new (ok_box 2 rfl (fun _ => rfl) rfl) rfl rfl rfl rfl ?_
  refine TrL.op (ok_assign rfl (fun _ => rfl)) rfl rfl ?_
  refine TrL.op (ok_assign rfl (fun _ => rfl)) rfl rfl ?_
  refine TrL.fin ?_
  refine End.nxt ?_
  refine Tr.seq ?_
  refine Tr.rg ?_
  refine TrL.op (ok_ldBS rfl (fun _ => rfl)) rfl rfl ?_
  refine TrL.op (ok_call (fun hp => ct_open _) (.s rfl (fun _ => rfl) rfl <| .nil)) rfl rfl ?_
  refine TrL.op (ok_move rfl (fun _ => rfl)) rfl rfl ?_
  refine TrL.op (ok_ext rfl (fun _ => rfl) rfl) rfl rfl ?_
  refine TrL.op (ok_ext rfl (fun _ => rfl) rfl) rfl rfl ?_
  refine TrL.op (ok_assign rfl (fun _ => rfl)) rfl rfl ?_
  refine TrL.op (ok_assign rfl (fun _ => rfl)) rfl rfl ?_
  refine TrL.fin ?_
  refine End.nxt ?_
  refine Tr.seq ?_
  refine Tr.seq ?_
  refine Tr.rg ?_
  refine TrL.op (ok_move rfl (fun _ => rfl)) rfl rfl ?_
  refine TrL.op (ok_neq rfl (fun _ => rfl) rfl (fun _ => rfl)) rfl rfl ?_
  refine TrL.fin ?_
  refine End.nxt ?_
  refine Tr.cnd rfl ?_ ?_
  · intro h2
    replace h2 := of_decide_eq_true h2
    refine Tr.seq ?_
    refine Tr.rg ?_
    refine TrL.op (ok_move rfl (fun _ => rfl)) rfl rfl ?_
    refine TrL.op (ok_assign rfl (fun _ => rfl)) rfl rfl ?_
    refine TrL.op (ok_assign rfl (fun _ => rfl)) rfl rfl ?_
    refine TrL.fin ?_
    refine End.nxt ?_
    refine Tr.ret ?_
    refine Rts.thn ?_
    exact Rts.res (fn := Tryd.f29) (ts := [4, 5]) rfl rfl (.n rfl (by rw [orE_l h2, if_neg h2]) <| .i rfl (by rw [orE_l h2]) <| .nil)
  · intro h2
    replace h2 := Classical.not_not.1 (of_decide_eq_false h2)
    have v : Valid o := valid_of h2
    refine Tr.ifT (s := 6) rfl (decide_eq_true h2) rfl ?_
    refine Tr.skip ?_
    refine End.nxt ?_
    refine Tr.seq ?_
    refine Tr.seq ?_
    refine Tr.rg ?_
    refine TrL.op (ok_move rfl (fun _ => rfl)) rfl rfl ?_
    refine TrL.op (ok_move rfl (fun _ => rfl)) rfl rfl ?_
    refine TrL.op (ok_call (fun hp => ct_checkChain _ v _) (.a rfl (fun _ => rfl) <| .a rfl (fun _ => rfl) <| .nil)) rfl rfl ?_
    refine TrL.op (ok_assign rfl (fun _ => rfl)) rfl rfl ?_
    refine TrL.fin ?_
    refine End.nxt ?_
    refine Tr.seq ?_
    refine Tr.rg ?_
    refine TrL.op (ok_move rfl (fun _ => rfl)) rfl rfl ?_
    refine TrL.op (ok_neq rfl (fun _ => rfl) rfl (fun _ => rfl)) rfl rfl ?_
    refine TrL.fin ?_
    refine End.nxt ?_
    refine Tr.cnd rfl ?_ ?_
    · intro h5
      replace h5 := of_decide_eq_true h5
      refine Tr.seq ?_
      refine Tr.rg ?_
      refine TrL.op (ok_move rfl (fun _ => rfl)) rfl rfl ?_
      refine TrL.op (ok_assign rfl (fun _ => rfl)) rfl rfl ?_
      refine TrL.op (ok_assign rfl (fun _ => rfl)) rfl rfl ?_
      refine TrL.fin ?_
      refine End.nxt ?_
      refine Tr.ret ?_
      refine Rts.thn ?_
      exact Rts.res (fn := Tryd.f29) (ts := [4, 5]) rfl rfl (.n rfl (by rw [orE_r h2, if_neg h5]) <| .i rfl (by rw [orE_r h2]) <| .nil)
    · intro h5
      replace h5 := Classical.not_not.1 (of_decide_eq_false h5)
      have hcl := chkC_len h5
      refine Tr.skip ?_
      refine End.nxt ?_
      refine Tr.seq ?_
      refine Tr.rg ?_
      refine TrL.op (ok_move rfl (fun _ => rfl)) rfl rfl ?_
      refine TrL.op (ok_move rfl (fun _ => rfl)) rfl rfl ?_
      refine TrL.op (ok_call (fun hp => ct_boundary _ v _ (by assumption)) (.a rfl (fun _ => rfl) <| .a rfl (fun _ => rfl) <| .nil)) rfl rfl ?_
      refine TrL.op (ok_assign rfl (fun _ => rfl)) rfl rfl ?_
      refine TrL.op (ok_assign rfl (fun _ => rfl)) rfl rfl ?_
      refine TrL.fin ?_
      refine End.nxt ?_
      refine Tr.ret ?_
      exact Rts.res (fn := Tryd.f29) (ts := [4, 5]) rfl rfl (.r rfl (by rw [orE_r h2, if_pos h5]) <| .i rfl (by rw [orE_r h2, h5]) <| .nil)

set_option maxRecDepth 100000 in
set_option maxHeartbeats 1000000 in
theorem ct_intersect (o : Ori) (v : Valid o) (a b : List Int) (ha : a.length = 2 * o.1.length) (hb : b.length = 2 * o.1.length) : Ct Tryd.prog 52 [kPtr eG (gridOf o), kRd (eL eI) a, kRd (eL eI) b] (kI (W (isI o a b))) := by
  have hv0 := v.pos
  have hv1 := v.len
  have hv2 := v.le
  have hl1 := invL_len o.1
  have hl2 := invL_len o.2
  have hl3 := vertL_len (o := o)
  have hl4 := vtx_le (o := o)
  refine Ct.mk Tryd.func52 rfl Tryd.ntmps52 rfl (fun w J => ?_)
  refine Tr.seq ?_
  refine Tr.rg ?_
  refine TrL.op (ok_assign rfl (fun _ => rfl)) rfl rfl ?_
  refine TrL.fin ?_
  refine End.nxt ?_
  refine Tr.seq ?_
  refine Tr.rg ?_
  refine TrL.op (ok_assign rfl (fun _ => rfl)) rfl rfl ?_
  refine TrL.fin ?_
  refine End.nxt ?_
  refine Tr.seq ?_
  refine Tr.rg ?_
  refine TrL.op (ok_move rfl (fun _ => rfl)) rfl rfl ?_
  refine TrL.op (ok_nilP rfl (fun _ => rfl)) rfl rfl ?_
  refine TrL.op (ok_fldP rfl (fun _ => rfl) rfl) rfl rfl ?_
  refine TrL.op (ok_ldP rfl (fun _ => rfl) rfl) rfl rfl ?_
  refine TrL.new (ok_makeN eI 22 rfl (fun _ => rfl) rfl (fun _ => rfl) rfl rfl rfl (fun _ => by omega)) rfl rfl rfl rfl ?_
  refine TrL.op (ok_assign rfl (fun _ => rfl)) rfl rfl ?_
  refine TrL.fin ?_
  refine End.nxt ?_
  refine Tr.seq ?_
  refine Tr.seq ?_
  refine Tr.rg ?_
  refine TrL.op (ok_move rfl (fun _ => rfl)) rfl rfl ?_
  refine TrL.op (ok_nilP rfl (fun _ => rfl)) rfl rfl ?_
  refine TrL.op (ok_fldP rfl (fun _ => rfl) rfl) rfl rfl ?_
  refine TrL.op (ok_ldP rfl (fun _ => rfl) rfl) rfl rfl ?_
  refine TrL.op (ok_move rfl (fun _ => rfl)) rfl rfl ?_
  refine TrL.fin ?_
  refine End.nxt ?_
  refine Tr.for1 (σ := Nat) [⟨0, true, _, _⟩, ⟨1, true, _, _⟩, ⟨2, true, _, _⟩, ⟨8, true, _, _⟩, ⟨26, true, _, _⟩] [] (fun k => [⟨7, true, [], kI (W (is1 o a b k))⟩, ⟨27, true, [], kI (k : Int)⟩]) (fun k => [⟨22, [], cArr false 3 eI (excT o b k) o.1.length⟩]) (fun k => k ≤ o.1.length) (fun k => k = o.1.length) (fun k => o.1.length - k) (0) (by first | rfl | omega | (simp; done) | (simp; omega) | assumption) (Ent.mk (.i rfl (by first | rfl | omega | (simp; done) | (simp; omega) | assumption) <| .i rfl (by first | rfl | omega | (simp; done) | (simp; omega) | assumption) <| .k rfl rfl <| .k rfl rfl <| .k rfl rfl <| .k rfl rfl <| .k rfl rfl <| .nil) (.a excT_zero (by first | rfl | omega | (simp; done) | (simp; omega) | assumption) <| .nil) rfl) ?_ ?_
  · intro k hR0
    refine Tr.norm (S' := [⟨7, true, _, _⟩, ⟨27, true, _, _⟩, ⟨0, true, _, _⟩, ⟨1, true, _, _⟩, ⟨2, true, _, _⟩, ⟨8, true, _, _⟩, ⟨26, true, _, _⟩]) (M' := [⟨22, _, _⟩]) rfl rfl ?_
    refine Tr.seq ?_
    refine Tr.rg ?_
    refine TrL.op (ok_lss rfl (fun _ => rfl) rfl (fun _ => rfl)) rfl rfl ?_
    refine TrL.fin ?_
    refine End.nxt ?_
    refine Tr.seq ?_
    refine Tr.cnd rfl ?_ ?_
    · intro h4
      replace h4 := of_decide_eq_true h4
      refine Tr.skip ?_
      refine End.nxt ?_
      refine Tr.seq ?_
      refine Tr.blk ?_
      refine Tr.seq ?_
      refine Tr.rg ?_
      refine TrL.op (ok_move rfl (fun _ => rfl)) rfl rfl ?_
      refine TrL.op (ok_assign rfl (fun _ => rfl)) rfl rfl ?_
      refine TrL.fin ?_
      refine End.nxt ?_
      refine Tr.seq ?_
      refine Tr.draw 14 mixed (by kernel_rfl) ?_
      have a1 := v.ri (i := k) (by omega)
      have a2 := v.ui (i := k) (by omega)
      refine RunD.op (ok_move rfl (fun _ => rfl)) rfl rfl ?_
      refine RunD.op (ok_move rfl (fun _ => rfl)) rfl rfl ?_
      first | refine RunD.op (ok_idxN rfl (fun _ => rfl) rfl (fun _ => rfl) rfl (fun _ => by omega)) rfl rfl ?_ | refine RunD.op (ok_idxP rfl (fun _ => rfl) rfl (fun _ => rfl) rfl (fun _ => by omega)) rfl rfl ?_
      refine RunD.op (ok_ldP rfl (fun _ => rfl) rfl) rfl rfl ?_
      refine RunD.op (ok_move rfl (fun _ => rfl)) rfl rfl ?_
      refine RunD.op (ok_move rfl (fun _ => rfl)) rfl rfl ?_
      refine RunD.op (ok_nilP rfl (fun _ => rfl)) rfl rfl ?_
      refine RunD.op (ok_fldP rfl (fun _ => rfl) rfl) rfl rfl ?_
      refine RunD.op (ok_ldP rfl (fun _ => rfl) rfl) rfl rfl ?_
      refine RunD.op (ok_move rfl (fun _ => rfl)) rfl rfl ?_
      refine RunD.op (ok_add rfl (fun _ => rfl) rfl (fun _ => rfl) (fun _ => by omega)) rfl rfl ?_
      first | refine RunD.op (ok_idxN rfl (fun _ => rfl) rfl (fun _ => rfl) rfl (fun _ => by omega)) rfl rfl ?_ | refine RunD.op (ok_idxP rfl (fun _ => rfl) rfl (fun _ => rfl) rfl (fun _ => by omega)) rfl rfl ?_
      refine RunD.op (ok_ldP rfl (fun _ => rfl) rfl) rfl rfl ?_
      refine RunD.op (ok_assign rfl (fun _ => rfl)) rfl rfl ?_
      refine RunD.z ?_
      refine TrL.op (ok_assign rfl (fun _ => rfl)) rfl rfl ?_
      refine TrL.fin ?_
      refine End.nxt ?_
      refine Tr.seq ?_
      refine Tr.rg ?_
      refine TrL.op (ok_move rfl (fun _ => rfl)) rfl rfl ?_
      refine TrL.op (ok_move rfl (fun _ => rfl)) rfl rfl ?_
      first | refine TrL.op (ok_idxEN rfl (fun _ => rfl) rfl (fun _ => rfl) (fun _ => by omega)) rfl rfl ?_ | refine TrL.op (ok_idxE rfl (fun _ => rfl) rfl (fun _ => rfl) (fun _ => by omega)) rfl rfl ?_
      refine TrL.op (ok_ldE rfl (fun _ => rfl) rfl rfl rfl) rfl rfl ?_
      refine TrL.op (ok_move rfl (fun _ => rfl)) rfl rfl ?_
      refine TrL.op (ok_move rfl (fun _ => rfl)) rfl rfl ?_
      refine TrL.op (ok_addW rfl (fun _ => rfl) rfl (fun _ => rfl)) rfl rfl ?_
      refine TrL.op (ok_subW rfl (fun _ => rfl) rfl (fun _ => rfl)) rfl rfl ?_
      first | refine TrL.op (ok_idxEN rfl (fun _ => rfl) rfl (fun _ => rfl) (fun _ => by omega)) rfl rfl ?_ | refine TrL.op (ok_idxE rfl (fun _ => rfl) rfl (fun _ => rfl) (fun _ => by omega)) rfl rfl ?_
      refine TrL.stE rfl rfl rfl rfl rfl ?_
      refine TrL.fin ?_
      refine End.nxt ?_
      refine Tr.seq ?_
      refine Tr.rg ?_
      refine TrL.op (ok_move rfl (fun _ => rfl)) rfl rfl ?_
      refine TrL.op (ok_move rfl (fun _ => rfl)) rfl rfl ?_
      refine TrL.op (ok_nilP rfl (fun _ => rfl)) rfl rfl ?_
      refine TrL.op (ok_fldP rfl (fun _ => rfl) rfl) rfl rfl ?_
      refine TrL.op (ok_ldP rfl (fun _ => rfl) rfl) rfl rfl ?_
      refine TrL.op (ok_move rfl (fun _ => rfl)) rfl rfl ?_
      first | refine TrL.op (ok_idxN rfl (fun _ => rfl) rfl (fun _ => rfl) rfl (fun _ => by omega)) rfl rfl ?_ | refine TrL.op (ok_idxP rfl (fun _ => rfl) rfl (fun _ => rfl) rfl (fun _ => by omega)) rfl rfl ?_
      refine TrL.op (ok_ldP rfl (fun _ => rfl) rfl) rfl rfl ?_
      first | refine TrL.op (ok_idxEN rfl (fun _ => rfl) rfl (fun _ => rfl) (fun _ => by omega)) rfl rfl ?_ | refine TrL.op (ok_idxE rfl (fun _ => rfl) rfl (fun _ => rfl) (fun _ => by omega)) rfl rfl ?_
      refine TrL.op (ok_ldE rfl (fun _ => rfl) rfl rfl rfl) rfl rfl ?_
      refine TrL.op (ok_move rfl (fun _ => rfl)) rfl rfl ?_
      refine TrL.op (ok_addW rfl (fun _ => rfl) rfl (fun _ => rfl)) rfl rfl ?_
      first | refine TrL.op (ok_idxEN rfl (fun _ => rfl) rfl (fun _ => rfl) (fun _ => by omega)) rfl rfl ?_ | refine TrL.op (ok_idxE rfl (fun _ => rfl) rfl (fun _ => rfl) (fun _ => by omega)) rfl rfl ?_
      refine TrL.stE rfl rfl rfl rfl rfl ?_
      refine TrL.fin ?_
      refine End.nxt ?_
      refine Tr.seq ?_
      refine Tr.rg ?_
      refine TrL.op (ok_move rfl (fun _ => rfl)) rfl rfl ?_
      refine TrL.op (ok_move rfl (fun _ => rfl)) rfl rfl ?_
      refine TrL.op (ok_nilP rfl (fun _ => rfl)) rfl rfl ?_
      refine TrL.op (ok_fldP rfl (fun _ => rfl) rfl) rfl rfl ?_
      refine TrL.op (ok_ldP rfl (fun _ => rfl) rfl) rfl rfl ?_
      refine TrL.op (ok_move rfl (fun _ => rfl)) rfl rfl ?_
      first | refine TrL.op (ok_idxN rfl (fun _ => rfl) rfl (fun _ => rfl) rfl (fun _ => by omega)) rfl rfl ?_ | refine TrL.op (ok_idxP rfl (fun _ => rfl) rfl (fun _ => rfl) rfl (fun _ => by omega)) rfl rfl ?_
      refine TrL.op (ok_ldP rfl (fun _ => rfl) rfl) rfl rfl ?_
      first | refine TrL.op (ok_idxEN rfl (fun _ => rfl) rfl (fun _ => rfl) (fun _ => by omega)) rfl rfl ?_ | refine TrL.op (ok_idxE rfl (fun _ => rfl) rfl (fun _ => rfl) (fun _ => by omega)) rfl rfl ?_
      refine TrL.op (ok_ldE rfl (fun _ => rfl) rfl rfl rfl) rfl rfl ?_
      refine TrL.op (ok_move rfl (fun _ => rfl)) rfl rfl ?_
      refine TrL.op (ok_addW rfl (fun _ => rfl) rfl (fun _ => rfl)) rfl rfl ?_
      first | refine TrL.op (ok_idxEN rfl (fun _ => rfl) rfl (fun _ => rfl) (fun _ => by omega)) rfl rfl ?_ | refine TrL.op (ok_idxE rfl (fun _ => rfl) rfl (fun _ => rfl) (fun _ => by omega)) rfl rfl ?_
      refine TrL.stE rfl rfl rfl rfl rfl ?_
      refine TrL.fin ?_
      refine End.nxt ?_
      refine Tr.draw 31 mixed (by kernel_rfl) ?_
      refine RunD.op (ok_move rfl (fun _ => rfl)) rfl rfl ?_
      refine RunD.op (ok_move rfl (fun _ => rfl)) rfl rfl ?_
      refine RunD.op (ok_move rfl (fun _ => rfl)) rfl rfl ?_
      refine RunD.op (ok_move rfl (fun _ => rfl)) rfl rfl ?_
      refine RunD.op (ok_nilP rfl (fun _ => rfl)) rfl rfl ?_
      refine RunD.op (ok_fldP rfl (fun _ => rfl) rfl) rfl rfl ?_
      refine RunD.op (ok_ldP rfl (fun _ => rfl) rfl) rfl rfl ?_
      refine RunD.op (ok_move rfl (fun _ => rfl)) rfl rfl ?_
      first | refine RunD.op (ok_idxN rfl (fun _ => rfl) rfl (fun _ => rfl) rfl (fun _ => by omega)) rfl rfl ?_ | refine RunD.op (ok_idxP rfl (fun _ => rfl) rfl (fun _ => rfl) rfl (fun _ => by omega)) rfl rfl ?_
      refine RunD.op (ok_ldP rfl (fun _ => rfl) rfl) rfl rfl ?_
      first | refine RunD.op (ok_idxN rfl (fun _ => rfl) rfl (fun _ => rfl) rfl (fun _ => by omega)) rfl rfl ?_ | refine RunD.op (ok_idxP rfl (fun _ => rfl) rfl (fun _ => rfl) rfl (fun _ => by omega)) rfl rfl ?_
      refine RunD.op (ok_ldP rfl (fun _ => rfl) rfl) rfl rfl ?_
      refine RunD.op (ok_mulW rfl (fun _ => rfl) rfl (fun _ => rfl)) rfl rfl ?_
      refine RunD.op (ok_move rfl (fun _ => rfl)) rfl rfl ?_
      refine RunD.op (ok_move rfl (fun _ => rfl)) rfl rfl ?_
      refine RunD.op (ok_move rfl (fun _ => rfl)) rfl rfl ?_
      refine RunD.op (ok_nilP rfl (fun _ => rfl)) rfl rfl ?_
      refine RunD.op (ok_fldP rfl (fun _ => rfl) rfl) rfl rfl ?_
      refine RunD.op (ok_ldP rfl (fun _ => rfl) rfl) rfl rfl ?_
      refine RunD.op (ok_move rfl (fun _ => rfl)) rfl rfl ?_
      refine RunD.op (ok_nilP rfl (fun _ => rfl)) rfl rfl ?_
      refine RunD.op (ok_fldP rfl (fun _ => rfl) rfl) rfl rfl ?_
      refine RunD.op (ok_ldP rfl (fun _ => rfl) rfl) rfl rfl ?_
      refine RunD.op (ok_move rfl (fun _ => rfl)) rfl rfl ?_
      first | refine RunD.op (ok_idxN rfl (fun _ => rfl) rfl (fun _ => rfl) rfl (fun _ => by omega)) rfl rfl ?_ | refine RunD.op (ok_idxP rfl (fun _ => rfl) rfl (fun _ => rfl) rfl (fun _ => by omega)) rfl rfl ?_
      refine RunD.op (ok_ldP rfl (fun _ => rfl) rfl) rfl rfl ?_
      refine RunD.op (ok_add rfl (fun _ => rfl) rfl (fun _ => rfl) (fun _ => by omega)) rfl rfl ?_
      first | refine RunD.op (ok_idxN rfl (fun _ => rfl) rfl (fun _ => rfl) rfl (fun _ => by omega)) rfl rfl ?_ | refine RunD.op (ok_idxP rfl (fun _ => rfl) rfl (fun _ => rfl) rfl (fun _ => by omega)) rfl rfl ?_
      refine RunD.op (ok_ldP rfl (fun _ => rfl) rfl) rfl rfl ?_
      refine RunD.op (ok_mulW rfl (fun _ => rfl) rfl (fun _ => rfl)) rfl rfl ?_
      refine RunD.op (ok_subW rfl (fun _ => rfl) rfl (fun _ => rfl)) rfl rfl ?_
      refine RunD.z ?_
      refine TrL.op (ok_addW rfl (fun _ => rfl) rfl (fun _ => rfl)) rfl rfl ?_
      refine TrL.op (ok_assign rfl (fun _ => rfl)) rfl rfl ?_
      refine TrL.fin ?_
      refine End.blk ?_
      refine End.nxt ?_
      refine Tr.rg ?_
      refine TrL.op (ok_add rfl (fun _ => rfl) rfl (fun _ => rfl) (fun _ => by omega)) rfl rfl ?_
      refine TrL.op (ok_move rfl (fun _ => rfl)) rfl rfl ?_
      refine TrL.fin ?_
      exact End.lp (k + 1) (by first | rfl | omega | (simp; done) | (simp; omega) | assumption) (by omega) (Ent.mk (.i rfl is1_succ <| .i rfl (by first | rfl | omega | (simp; done) | (simp; omega) | assumption) <| .k rfl rfl <| .k rfl rfl <| .k rfl rfl <| .k rfl rfl <| .k rfl rfl <| .nil) (.a (excT_succ v (by omega) rfl rfl rfl rfl rfl) (by first | rfl | omega | (simp; done) | (simp; omega) | assumption) <| .nil) rfl)
    · intro h4
      replace h4 := Int.not_lt.1 (of_decide_eq_false h4)
      refine Tr.exit ?_
      refine Exs.thn ?_
      refine Exs.thn ?_
      refine Exs.here ?_
      exact End.cut (k) (by omega) (Ent.mk (.i rfl (by first | rfl | omega | (simp; done) | (simp; omega) | assumption) <| .i rfl (by first | rfl | omega | (simp; done) | (simp; omega) | assumption) <| .k rfl rfl <| .k rfl rfl <| .k rfl rfl <| .k rfl rfl <| .k rfl rfl <| .nil) (.a (by first | rfl | omega | (simp; done) | (simp; omega) | assumption) (by first | rfl | omega | (simp; done) | (simp; omega) | assumption) <| .nil) rfl)
  · rintro _ rfl
    refine End.norm (S' := [⟨7, true, _, _⟩, ⟨27, true, _, _⟩, ⟨0, true, _, _⟩, ⟨1, true, _, _⟩, ⟨2, true, _, _⟩, ⟨8, true, _, _⟩, ⟨26, true, _, _⟩]) (M' := [⟨22, _, _⟩]) rfl rfl ?_
    refine End.nxt ?_
    refine Tr.seq ?_
    refine Tr.seq ?_
    refine Tr.rg ?_
    refine TrL.op (ok_move rfl (fun _ => rfl)) rfl rfl ?_
    refine TrL.op (ok_nilP rfl (fun _ => rfl)) rfl rfl ?_
    refine TrL.op (ok_fldP rfl (fun _ => rfl) rfl) rfl rfl ?_
    refine TrL.op (ok_ldP rfl (fun _ => rfl) rfl) rfl rfl ?_
    refine TrL.op (ok_lenJ rfl (fun _ => rfl)) rfl rfl ?_
    refine TrL.op (ok_move rfl (fun _ => rfl)) rfl rfl ?_
    refine TrL.fin ?_
    refine End.nxt ?_
    refine Tr.for1 (σ := Nat) [⟨0, true, _, _⟩, ⟨1, true, _, _⟩, ⟨8, true, _, _⟩, ⟨114, true, _, _⟩, ⟨115, true, _, _⟩] [⟨22, _, _⟩] (fun m => [⟨7, true, [], kI (W (is1 o a b o.1.length + isT o a b m))⟩, ⟨116, true, [], kI (m : Int)⟩]) (fun m => []) (fun m => m ≤ (vtx o).length) (fun m => m = (vtx o).length) (fun m => (vtx o).length - m) (0) (by first | rfl | omega | (simp; done) | (simp; omega) | assumption) (Ent.mk (.i rfl (by rw [show isT o a b 0 = 0 from rfl, Int.add_zero]) <| .i rfl (by first | rfl | omega | (simp; done) | (simp; omega) | assumption) <| .k rfl rfl <| .k rfl rfl <| .k rfl rfl <| .k rfl rfl <| .k rfl rfl <| .nil) (.k rfl <| .nil) rfl) ?_ ?_
    · intro m hR1
      refine Tr.norm (S' := [⟨7, true, _, _⟩, ⟨116, true, _, _⟩, ⟨0, true, _, _⟩, ⟨1, true, _, _⟩, ⟨8, true, _, _⟩, ⟨114, true, _, _⟩, ⟨115, true, _, _⟩]) (M' := [⟨22, _, _⟩]) rfl rfl ?_
      refine Tr.seq ?_
      refine Tr.rg ?_
      refine TrL.op (ok_lss rfl (fun _ => rfl) rfl (fun _ => rfl)) rfl rfl ?_
      refine TrL.fin ?_
      refine End.nxt ?_
      refine Tr.seq ?_
      refine Tr.cnd rfl ?_ ?_
      · intro h13
        replace h13 := of_decide_eq_true h13
        refine Tr.skip ?_
        refine End.nxt ?_
        refine Tr.seq ?_
        refine Tr.blk ?_
        refine Tr.seq ?_
        refine Tr.rg ?_
        first | refine TrL.op (ok_idxN rfl (fun _ => rfl) rfl (fun _ => rfl) rfl (fun _ => by omega)) rfl rfl ?_ | refine TrL.op (ok_idxP rfl (fun _ => rfl) rfl (fun _ => rfl) rfl (fun _ => by omega)) rfl rfl ?_
        refine TrL.op (ok_ldP rfl (fun _ => rfl) rfl) rfl rfl ?_
        refine TrL.op (ok_assign rfl (fun _ => rfl)) rfl rfl ?_
        refine TrL.fin ?_
        refine End.nxt ?_
        refine Tr.seq ?_
        refine Tr.rg ?_
        refine TrL.op (ok_assign rfl (fun _ => rfl)) rfl rfl ?_
        refine TrL.fin ?_
        refine End.nxt ?_
        refine Tr.seq ?_
        refine Tr.rg ?_
        refine TrL.op (ok_move rfl (fun _ => rfl)) rfl rfl ?_
        refine TrL.op (ok_lenJ rfl (fun _ => rfl)) rfl rfl ?_
        refine TrL.op (ok_move rfl (fun _ => rfl)) rfl rfl ?_
        refine TrL.fin ?_
        refine End.nxt ?_
        refine Tr.for1 (σ := Nat) [⟨0, true, _, _⟩, ⟨1, true, _, _⟩, ⟨8, true, _, _⟩, ⟨13, true, _, _⟩, ⟨114, true, _, _⟩, ⟨115, true, _, _⟩, ⟨116, true, _, _⟩, ⟨120, true, _, _⟩, ⟨121, true, _, _⟩] [⟨22, _, _⟩] (fun i => [⟨7, true, [], kI (W (is1 o a b o.1.length + isT o a b m + is2 o a b (nth (vtx o) m) i))⟩, ⟨14, true, [], kI (W (isz o b (nth (vtx o) m) i))⟩, ⟨122, true, [], kI (i : Int)⟩]) (fun i => []) (fun i => i ≤ (nth (vtx o) m).length) (fun i => i = (nth (vtx o) m).length) (fun i => (nth (vtx o) m).length - i) (0) (by first | rfl | omega | (simp; done) | (simp; omega) | assumption) (Ent.mk (.i rfl (by rw [show is2 o a b (nth (vtx o) m) 0 = 0 from rfl, Int.add_zero]) <| .i rfl (by first | rfl | omega | (simp; done) | (simp; omega) | assumption) <| .i rfl (by first | rfl | omega | (simp; done) | (simp; omega) | assumption) <| .k rfl rfl <| .k rfl rfl <| .k rfl rfl <| .k rfl rfl <| .k rfl rfl <| .k rfl rfl <| .k rfl rfl <| .k rfl rfl <| .k rfl rfl <| .nil) (.k rfl <| .nil) rfl) ?_ ?_
        · intro i hR2
          refine Tr.norm (S' := [⟨7, true, _, _⟩, ⟨14, true, _, _⟩, ⟨122, true, _, _⟩, ⟨0, true, _, _⟩, ⟨1, true, _, _⟩, ⟨8, true, _, _⟩, ⟨13, true, _, _⟩, ⟨114, true, _, _⟩, ⟨115, true, _, _⟩, ⟨116, true, _, _⟩, ⟨120, true, _, _⟩, ⟨121, true, _, _⟩]) (M' := [⟨22, _, _⟩]) rfl rfl ?_
          refine Tr.seq ?_
          refine Tr.rg ?_
          refine TrL.op (ok_lss rfl (fun _ => rfl) rfl (fun _ => rfl)) rfl rfl ?_
          refine TrL.fin ?_
          refine End.nxt ?_
          refine Tr.seq ?_
          refine Tr.cnd rfl ?_ ?_
          · intro h17
            replace h17 := of_decide_eq_true h17
            refine Tr.skip ?_
            refine End.nxt ?_
            refine Tr.seq ?_
            refine Tr.blk ?_
            refine Tr.seq ?_
            refine Tr.rg ?_
            have hrow := vtx_row v (i := m) (by omega)
            have hx := vtx_mem v (i := m) (j := i) (by omega) (by omega)
            have hm := Nat.mod_lt (i + 1) (y := (nth (vtx o) m).length) (by omega)
            have hy := vtx_mem v (i := m) (j := (i + 1) % (nth (vtx o) m).length) (by omega) hm
            have hz := invR v (i := (nth (nth (vtx o) m) i).toNat) (by omega)
            have hq := invU v (i := (nth (nth (vtx o) m) ((i + 1) % (nth (vtx o) m).length)).toNat) (by omega)
            refine TrL.op (ok_move rfl (fun _ => rfl)) rfl rfl ?_
            first | refine TrL.op (ok_idxN rfl (fun _ => rfl) rfl (fun _ => rfl) rfl (fun _ => by omega)) rfl rfl ?_ | refine TrL.op (ok_idxP rfl (fun _ => rfl) rfl (fun _ => rfl) rfl (fun _ => by omega)) rfl rfl ?_
            refine TrL.op (ok_ldP rfl (fun _ => rfl) rfl) rfl rfl ?_
            refine TrL.op (ok_assign rfl (fun _ => rfl)) rfl rfl ?_
            refine TrL.op (ok_assign rfl (fun _ => rfl)) rfl rfl ?_
            refine TrL.fin ?_
            refine End.nxt ?_
            refine Tr.seq ?_
            refine Tr.rg ?_
            refine TrL.op (ok_move rfl (fun _ => rfl)) rfl rfl ?_
            refine TrL.op (ok_move rfl (fun _ => rfl)) rfl rfl ?_
            refine TrL.op (ok_add rfl (fun _ => rfl) rfl (fun _ => rfl) (fun _ => by omega)) rfl rfl ?_
            refine TrL.op (ok_move rfl (fun _ => rfl)) rfl rfl ?_
            refine TrL.op (ok_lenJ rfl (fun _ => rfl)) rfl rfl ?_
            refine TrL.op (ok_remN (i + 1) (nth (vtx o) m).length rfl (fun _ => rfl) rfl (fun _ => rfl) (fun _ => by omega)) rfl rfl ?_
            first | refine TrL.op (ok_idxN rfl (fun _ => rfl) rfl (fun _ => rfl) rfl (fun _ => by omega)) rfl rfl ?_ | refine TrL.op (ok_idxP rfl (fun _ => rfl) rfl (fun _ => rfl) rfl (fun _ => by omega)) rfl rfl ?_
            refine TrL.op (ok_ldP rfl (fun _ => rfl) rfl) rfl rfl ?_
            refine TrL.op (ok_assign rfl (fun _ => rfl)) rfl rfl ?_
            refine TrL.fin ?_
            refine End.nxt ?_
            refine Tr.seq ?_
            refine Tr.rg ?_
            refine TrL.op (ok_move rfl (fun _ => rfl)) rfl rfl ?_
            refine TrL.op (ok_move rfl (fun _ => rfl)) rfl rfl ?_
            refine TrL.op (ok_move rfl (fun _ => rfl)) rfl rfl ?_
            first | refine TrL.op (ok_idxEN rfl (fun _ => rfl) rfl (fun _ => rfl) (fun _ => by omega)) rfl rfl ?_ | refine TrL.op (ok_idxE rfl (fun _ => rfl) rfl (fun _ => rfl) (fun _ => by omega)) rfl rfl ?_
            refine TrL.op (ok_ldE rfl (fun _ => rfl) rfl rfl rfl) rfl rfl ?_
            refine TrL.op (ok_addW rfl (fun _ => rfl) rfl (fun _ => rfl)) rfl rfl ?_
            refine TrL.op (ok_assign rfl (fun _ => rfl)) rfl rfl ?_
            refine TrL.fin ?_
            refine End.nxt ?_
            refine Tr.draw 44 mixed (by kernel_rfl) ?_
            refine RunD.op (ok_move rfl (fun _ => rfl)) rfl rfl ?_
            refine RunD.op (ok_move rfl (fun _ => rfl)) rfl rfl ?_
            refine RunD.op (ok_move rfl (fun _ => rfl)) rfl rfl ?_
            refine RunD.op (ok_move rfl (fun _ => rfl)) rfl rfl ?_
            refine RunD.op (ok_nilP rfl (fun _ => rfl)) rfl rfl ?_
            refine RunD.op (ok_fldP rfl (fun _ => rfl) rfl) rfl rfl ?_
            refine RunD.op (ok_ldP rfl (fun _ => rfl) rfl) rfl rfl ?_
            refine RunD.op (ok_move rfl (fun _ => rfl)) rfl rfl ?_
            refine RunD.op (ok_add rfl (fun _ => rfl) rfl (fun _ => rfl) (fun _ => by omega)) rfl rfl ?_
            first | refine RunD.op (ok_idxN rfl (fun _ => rfl) rfl (fun _ => rfl) rfl (fun _ => by omega)) rfl rfl ?_ | refine RunD.op (ok_idxP rfl (fun _ => rfl) rfl (fun _ => rfl) rfl (fun _ => by omega)) rfl rfl ?_
            refine RunD.op (ok_ldP rfl (fun _ => rfl) rfl) rfl rfl ?_
            refine RunD.op (ok_move rfl (fun _ => rfl)) rfl rfl ?_
            refine RunD.op (ok_move rfl (fun _ => rfl)) rfl rfl ?_
            refine RunD.op (ok_nilP rfl (fun _ => rfl)) rfl rfl ?_
            refine RunD.op (ok_fldP rfl (fun _ => rfl) rfl) rfl rfl ?_
            refine RunD.op (ok_ldP rfl (fun _ => rfl) rfl) rfl rfl ?_
            refine RunD.op (ok_move rfl (fun _ => rfl)) rfl rfl ?_
            first | refine RunD.op (ok_idxN rfl (fun _ => rfl) rfl (fun _ => rfl) rfl (fun _ => by omega)) rfl rfl ?_ | refine RunD.op (ok_idxP rfl (fun _ => rfl) rfl (fun _ => rfl) rfl (fun _ => by omega)) rfl rfl ?_
            refine RunD.op (ok_ldP rfl (fun _ => rfl) rfl) rfl rfl ?_
            first | refine RunD.op (ok_idxN rfl (fun _ => rfl) rfl (fun _ => rfl) rfl (fun _ => by omega)) rfl rfl ?_ | refine RunD.op (ok_idxP rfl (fun _ => rfl) rfl (fun _ => rfl) rfl (fun _ => by omega)) rfl rfl ?_
            refine RunD.op (ok_ldP rfl (fun _ => rfl) rfl) rfl rfl ?_
            refine RunD.op (ok_subW rfl (fun _ => rfl) rfl (fun _ => rfl)) rfl rfl ?_
            refine RunD.op (ok_move rfl (fun _ => rfl)) rfl rfl ?_
            refine RunD.op (ok_move rfl (fun _ => rfl)) rfl rfl ?_
            refine RunD.op (ok_nilP rfl (fun _ => rfl)) rfl rfl ?_
            refine RunD.op (ok_fldP rfl (fun _ => rfl) rfl) rfl rfl ?_
            refine RunD.op (ok_ldP rfl (fun _ => rfl) rfl) rfl rfl ?_
            refine RunD.op (ok_move rfl (fun _ => rfl)) rfl rfl ?_
            refine RunD.op (ok_nilP rfl (fun _ => rfl)) rfl rfl ?_
            refine RunD.op (ok_fldP rfl (fun _ => rfl) rfl) rfl rfl ?_
            refine RunD.op (ok_ldP rfl (fun _ => rfl) rfl) rfl rfl ?_
            refine RunD.op (ok_move rfl (fun _ => rfl)) rfl rfl ?_
            first | refine RunD.op (ok_idxN rfl (fun _ => rfl) rfl (fun _ => rfl) rfl (fun _ => by omega)) rfl rfl ?_ | refine RunD.op (ok_idxP rfl (fun _ => rfl) rfl (fun _ => rfl) rfl (fun _ => by omega)) rfl rfl ?_
            refine RunD.op (ok_ldP rfl (fun _ => rfl) rfl) rfl rfl ?_
            refine RunD.op (ok_add rfl (fun _ => rfl) rfl (fun _ => rfl) (fun _ => by omega)) rfl rfl ?_
            first | refine RunD.op (ok_idxN rfl (fun _ => rfl) rfl (fun _ => rfl) rfl (fun _ => by omega)) rfl rfl ?_ | refine RunD.op (ok_idxP rfl (fun _ => rfl) rfl (fun _ => rfl) rfl (fun _ => by omega)) rfl rfl ?_
            refine RunD.op (ok_ldP rfl (fun _ => rfl) rfl) rfl rfl ?_
            refine RunD.op (ok_subW rfl (fun _ => rfl) rfl (fun _ => rfl)) rfl rfl ?_
            refine RunD.op (ok_move rfl (fun _ => rfl)) rfl rfl ?_
            refine RunD.op (ok_move rfl (fun _ => rfl)) rfl rfl ?_
            first | refine RunD.op (ok_idxN rfl (fun _ => rfl) rfl (fun _ => rfl) rfl (fun _ => by omega)) rfl rfl ?_ | refine RunD.op (ok_idxP rfl (fun _ => rfl) rfl (fun _ => rfl) rfl (fun _ => by omega)) rfl rfl ?_
            refine RunD.op (ok_ldP rfl (fun _ => rfl) rfl) rfl rfl ?_
            refine RunD.op (ok_addW rfl (fun _ => rfl) rfl (fun _ => rfl)) rfl rfl ?_
            refine RunD.op (ok_mulW rfl (fun _ => rfl) rfl (fun _ => rfl)) rfl rfl ?_
            refine RunD.z ?_
            refine TrL.op (ok_addW rfl (fun _ => rfl) rfl (fun _ => rfl)) rfl rfl ?_
            refine TrL.op (ok_assign rfl (fun _ => rfl)) rfl rfl ?_
            refine TrL.fin ?_
            refine End.blk ?_
            refine End.nxt ?_
            refine Tr.rg ?_
            refine TrL.op (ok_add rfl (fun _ => rfl) rfl (fun _ => rfl) (fun _ => by omega)) rfl rfl ?_
            refine TrL.op (ok_move rfl (fun _ => rfl)) rfl rfl ?_
            refine TrL.fin ?_
            exact End.lp (i + 1) (by first | rfl | omega | (simp; done) | (simp; omega) | assumption) (by omega) (Ent.mk (.i rfl (is2_next hx) <| .i rfl (isz_succ hx) <| .i rfl (by first | rfl | omega | (simp; done) | (simp; omega) | assumption) <| .k rfl rfl <| .k rfl rfl <| .k rfl rfl <| .k rfl rfl <| .k rfl rfl <| .k rfl rfl <| .k rfl rfl <| .k rfl rfl <| .k rfl rfl <| .nil) (.k rfl <| .nil) rfl)
          · intro h17
            replace h17 := Int.not_lt.1 (of_decide_eq_false h17)
            refine Tr.exit ?_
            refine Exs.thn ?_
            refine Exs.thn ?_
            refine Exs.here ?_
            exact End.cut (i) (by omega) (Ent.mk (.i rfl (by first | rfl | omega | (simp; done) | (simp; omega) | assumption) <| .i rfl (by first | rfl | omega | (simp; done) | (simp; omega) | assumption) <| .i rfl (by first | rfl | omega | (simp; done) | (simp; omega) | assumption) <| .k rfl rfl <| .k rfl rfl <| .k rfl rfl <| .k rfl rfl <| .k rfl rfl <| .k rfl rfl <| .k rfl rfl <| .k rfl rfl <| .k rfl rfl <| .nil) (.k rfl <| .nil) rfl)
        · rintro _ rfl
          refine End.norm (S' := [⟨7, true, _, _⟩, ⟨14, true, _, _⟩, ⟨122, true, _, _⟩, ⟨0, true, _, _⟩, ⟨1, true, _, _⟩, ⟨8, true, _, _⟩, ⟨13, true, _, _⟩, ⟨114, true, _, _⟩, ⟨115, true, _, _⟩, ⟨116, true, _, _⟩, ⟨120, true, _, _⟩, ⟨121, true, _, _⟩]) (M' := [⟨22, _, _⟩]) rfl rfl ?_
          refine End.blk ?_
          refine End.nxt ?_
          refine Tr.rg ?_
          refine TrL.op (ok_add rfl (fun _ => rfl) rfl (fun _ => rfl) (fun _ => by omega)) rfl rfl ?_
          refine TrL.op (ok_move rfl (fun _ => rfl)) rfl rfl ?_
          refine TrL.fin ?_
          exact End.lp (m + 1) (by first | rfl | omega | (simp; done) | (simp; omega) | assumption) (by omega) (Ent.mk (.i rfl (by rw [Int.add_assoc]; rfl) <| .i rfl (by first | rfl | omega | (simp; done) | (simp; omega) | assumption) <| .k rfl rfl <| .k rfl rfl <| .k rfl rfl <| .k rfl rfl <| .k rfl rfl <| .nil) (.k rfl <| .nil) rfl)
      · intro h13
        replace h13 := Int.not_lt.1 (of_decide_eq_false h13)
        refine Tr.exit ?_
        refine Exs.thn ?_
        refine Exs.thn ?_
        refine Exs.here ?_
        exact End.cut (m) (by omega) (Ent.mk (.i rfl (by first | rfl | omega | (simp; done) | (simp; omega) | assumption) <| .i rfl (by first | rfl | omega | (simp; done) | (simp; omega) | assumption) <| .k rfl rfl <| .k rfl rfl <| .k rfl rfl <| .k rfl rfl <| .k rfl rfl <| .nil) (.k rfl <| .nil) rfl)
    · rintro _ rfl
      refine End.norm (S' := [⟨7, true, _, _⟩, ⟨116, true, _, _⟩, ⟨0, true, _, _⟩, ⟨1, true, _, _⟩, ⟨8, true, _, _⟩, ⟨114, true, _, _⟩, ⟨115, true, _, _⟩]) (M' := [⟨22, _, _⟩]) rfl rfl ?_
      refine End.nxt ?_
      refine Tr.seq ?_
      refine Tr.rg ?_
      refine TrL.op (ok_move rfl (fun _ => rfl)) rfl rfl ?_
      refine TrL.op (ok_assign rfl (fun _ => rfl)) rfl rfl ?_
      refine TrL.fin ?_
      refine End.nxt ?_
      refine Tr.ret ?_
      exact Rts.res1 (fn := Tryd.f52) rfl (.i rfl (by first | rfl | omega | (simp; done) | (simp; omega) | assumption) <| .nil)

end Go.Fl

/- Contracts of the functions of chapter 8, printed by gen.py. -/
namespace Go.Fl
open Go Go.Proofs


theorem err2 {f : List Int → Int} {a b : List Int} {k : Nat} (hk : k < 2) (hp : 0 < k → f a = 0) (h : f (nth [a, b] k) ≠ 0) : orE (f a) (f b) = f (nth [a, b] k) := by
  rcases k with _ | _ | k
  · exact orE_l h
  · exact orE_r (hp (by omega))
  · omega
def gramR (o : Ori) (l : List (List Int)) (k : Nat) : List Int := tab l.length (fun i => W (isI o (nth l k) (nth l i)))
def gramL (o : Ori) (l : List (List Int)) : List (List Int) := tab l.length (gramR o l)
theorem chkZs_all {o : Ori} {l : List (List Int)} (h : chkZs o l = 0) : l.length ≤ 40 ∧ ∀ i, i < l.length → (nth l i).length = 2 * o.1.length := by
  unfold chkZs at h
  by_cases h1 : 40 < l.length
  · rw [if_pos h1] at h; cases h
  rw [if_neg h1] at h
  refine ⟨by omega, fun i hi => ?_⟩
  have : ∀ {xs : List Int}, fstE xs = 0 → ∀ i, i < xs.length → nth xs i = 0 := by
    intro xs
    induction xs with
    | nil => intro _ i hi; simp at hi
    | cons x r ih =>
      intro h i hi
      have := orE_zero.1 h
      rcases i with _ | i
      · exact this.1
      · exact ih this.2 i (by simpa using hi)
  have h2 := this h i (by rw [List.length_map]; exact hi)
  rw [nth_map hi] at h2
  exact chkC_len (orE_zero.1 h2).1


def holX (o : Ori) (c : List Int) : Int := W (sumTo (nth c) o.1.length)
def holY (o : Ori) (c : List Int) : Int := W (sumTo (fun i => nth c ((o.1.length : Int) + i).toNat) o.1.length)
def sqE (o : Ori) (i : Int) : Int := orE (chkO o) (if 0 ≤ i ∧ i < o.1.length then 0 else 6)
/-- The boundary of a square, at an edge. -/
def sqI (o : Ori) (i : Int) (j : Nat) : Int := (if (j : Int) = i then 1 else 0) + (if (j : Int) = o.1.length + nth o.1 i.toNat then 1 else 0) - (if (j : Int) = nth o.2 i.toNat then 1 else 0) - (if (j : Int) = o.1.length + i then 1 else 0)
def sqL (o : Ori) (i : Int) : List Int := tab (2 * o.1.length) (fun j => W (sqI o i j))
theorem tab_add {n : Nat} {F : Nat → Int} {i : Int} {x y : Int} (h0 : 0 ≤ i) (hi : i < n) (hx : W x = W (nth (tab n (fun j => W (F j))) i.toNat + y)) : (tab n (fun j => W (F j))).set i.toNat (W x) = tab n (fun j => W (F j + if (j : Int) = i then y else 0)) := by
  rw [tab_set]
  refine tab_congr fun j hj => ?_
  by_cases e : j = i.toNat
  · have e' : (j : Int) = i := by omega
    rw [if_pos e, if_pos e', hx, nth_tab (by omega), W_add_l, ← e]
  · have e' : ¬ (j : Int) = i := by omega
    rw [if_neg e, if_neg e', Int.add_zero]
theorem sqL_eq {o : Ori} (v : Valid o) {i : Int} (h0 : 0 ≤ i) (h1 : i < o.1.length) {E0 E1 E2 E3 E4 : List Int} {a b c d : Int} (hE : E0 = List.replicate (2 * o.1.length) 0)
    (e1 : E1 = E0.set i.toNat a) (ha : a = W (nth E0 i.toNat + 1)) (e2 : E2 = E1.set ((o.1.length : Int) + nth o.1 i.toNat).toNat b) (hb : b = W (nth E1 ((o.1.length : Int) + nth o.1 i.toNat).toNat + 1))
    (e3 : E3 = E2.set (nth o.2 i.toNat).toNat c) (hc : c = W (nth E2 (nth o.2 i.toNat).toNat - 1)) (e4 : E4 = E3.set ((o.1.length : Int) + i).toNat d) (hd : d = W (nth E3 ((o.1.length : Int) + i).toNat - 1)) : E4 = sqL o i := by
  have hr := v.ri (i := i.toNat) (by omega)
  have hu := v.ui (i := i.toNat) (by omega)
  have t0 : E0 = tab (2 * o.1.length) (fun j => W ((fun _ => 0) j)) := by rw [hE, tab_rep]; rfl
  have t1 := e1; rw [ha, t0, tab_add (F := fun _ => 0) h0 (by omega) (y := 1) rfl] at t1
  have t2 := e2; rw [hb, t1, tab_add (by omega) (by omega) (y := 1) rfl] at t2
  have hc2 : c = W (nth E2 (nth o.2 i.toNat).toNat + -1) := hc
  have hd2 : d = W (nth E3 ((o.1.length : Int) + i).toNat + -1) := hd
  have t3 := e3; rw [hc2, t2, tab_add (by omega) (by omega) (y := -1) rfl] at t3
  have t4 := e4; rw [hd2, t3, tab_add (by omega) (by omega) (y := -1) rfl] at t4
  rw [t4, sqL]
  refine tab_congr fun j hj => congrArg W ?_
  unfold sqI
  split <;> split <;> split <;> split <;> omega

set_option maxRecDepth 100000 in
theorem ct_gram (o : Ori) (v : Valid o) (l : List (List Int)) (hl : ∀ i, i < l.length → (nth l i).length = 2 * o.1.length) (hn : l.length ≤ 1000) : Ct Tryd.prog 55 [kPtr eG (gridOf o), kRd (eL (eL eI)) l] (kRd (eL (eL eI)) (gramL o l)) := by
  refine Ct.mk Tryd.func55 rfl Tryd.ntmps55 rfl (fun w J => ?_)
  refine Tr.seq ?_
  refine Tr.rg ?_
  refine TrL.op (ok_assign rfl (fun _ => rfl)) rfl rfl ?_
  refine TrL.fin ?_
  refine End.nxt ?_
  refine Tr.seq ?_
  refine Tr.rg ?_
  refine TrL.op (ok_assign rfl (fun _ => rfl)) rfl rfl ?_
  refine TrL.fin ?_
  refine End.nxt ?_
  refine Tr.seq ?_
  refine Tr.seq ?_
  refine Tr.rg ?_
  refine TrL.op (ok_move rfl (fun _ => rfl)) rfl rfl ?_
  refine TrL.op (ok_lenJ rfl (fun _ => rfl)) rfl rfl ?_
  refine TrL.op (ok_move rfl (fun _ => rfl)) rfl rfl ?_
  refine TrL.fin ?_
  refine End.nxt ?_
  refine Tr.grow (s := 5) rfl rfl 5 rfl 22 (eL eI) rfl ?_
  refine Tr.for1 (σ := Nat) [⟨0, true, _, _⟩, ⟨1, true, _, _⟩, ⟨11, true, _, _⟩, ⟨12, true, _, _⟩] [] (fun k => [⟨5, true, [5], kOsl 5 k⟩, ⟨13, true, [], kI (k : Int)⟩]) (fun k => [⟨5, [], cArr true 22 (eL eI) (tab k (gramR o l)) k⟩]) (fun k => k ≤ l.length) (fun k => k = l.length) (fun k => l.length - k) (0) (by first | rfl | omega | (simp; done) | (simp; omega) | assumption) (Ent.mk (.o rfl (by first | rfl | omega | (simp; done) | (simp; omega) | assumption) rfl <| .i rfl (by first | rfl | omega | (simp; done) | (simp; omega) | assumption) <| .k rfl rfl <| .k rfl rfl <| .k rfl rfl <| .k rfl rfl <| .nil) (.a (by rfl) (by first | rfl | omega | (simp; done) | (simp; omega) | assumption) <| .nil) rfl) ?_ ?_
  · intro k hR0
    refine Tr.norm (S' := [⟨5, true, _, _⟩, ⟨13, true, _, _⟩, ⟨0, true, _, _⟩, ⟨1, true, _, _⟩, ⟨11, true, _, _⟩, ⟨12, true, _, _⟩]) (M' := [⟨5, _, _⟩]) rfl rfl ?_
    refine Tr.seq ?_
    refine Tr.rg ?_
    refine TrL.op (ok_lss rfl (fun _ => rfl) rfl (fun _ => rfl)) rfl rfl ?_
    refine TrL.fin ?_
    refine End.nxt ?_
    refine Tr.seq ?_
    refine Tr.cnd rfl ?_ ?_
    · intro h3
      replace h3 := of_decide_eq_true h3
      refine Tr.skip ?_
      refine End.nxt ?_
      refine Tr.seq ?_
      refine Tr.blk ?_
      refine Tr.seq ?_
      refine Tr.rg ?_
      first | refine TrL.op (ok_idxN rfl (fun _ => rfl) rfl (fun _ => rfl) rfl (fun _ => by omega)) rfl rfl ?_ | refine TrL.op (ok_idxP rfl (fun _ => rfl) rfl (fun _ => rfl) rfl (fun _ => by omega)) rfl rfl ?_
      refine TrL.op (ok_ldP rfl (fun _ => rfl) rfl) rfl rfl ?_
      refine TrL.op (ok_assign rfl (fun _ => rfl)) rfl rfl ?_
      refine TrL.fin ?_
      refine End.nxt ?_
      refine Tr.seq ?_
      refine Tr.rg ?_
      refine TrL.op (ok_assign rfl (fun _ => rfl)) rfl rfl ?_
      refine TrL.fin ?_
      refine End.nxt ?_
      refine Tr.seq ?_
      refine Tr.seq ?_
      refine Tr.rg ?_
      refine TrL.op (ok_move rfl (fun _ => rfl)) rfl rfl ?_
      refine TrL.op (ok_lenJ rfl (fun _ => rfl)) rfl rfl ?_
      refine TrL.op (ok_move rfl (fun _ => rfl)) rfl rfl ?_
      refine TrL.fin ?_
      refine End.nxt ?_
      refine Tr.grow (s := 8) rfl rfl 8 rfl 3 eI rfl ?_
      refine Tr.for1 (σ := Nat) [⟨0, true, _, _⟩, ⟨1, true, _, _⟩, ⟨5, true, _, _⟩, ⟨7, true, _, _⟩, ⟨11, true, _, _⟩, ⟨12, true, _, _⟩, ⟨13, true, _, _⟩, ⟨17, true, _, _⟩, ⟨18, true, _, _⟩] [⟨5, _, _⟩] (fun i => [⟨8, true, [8], kOsl 8 i⟩, ⟨19, true, [], kI (i : Int)⟩]) (fun i => [⟨8, [], cArr true 3 eI (tab i (fun i => W (isI o (nth l k) (nth l i)))) i⟩]) (fun i => i ≤ l.length) (fun i => i = l.length) (fun i => l.length - i) (0) (by first | rfl | omega | (simp; done) | (simp; omega) | assumption) (Ent.mk (.o rfl (by first | rfl | omega | (simp; done) | (simp; omega) | assumption) rfl <| .i rfl (by first | rfl | omega | (simp; done) | (simp; omega) | assumption) <| .k rfl rfl <| .k rfl rfl <| .k rfl rfl <| .k rfl rfl <| .k rfl rfl <| .k rfl rfl <| .k rfl rfl <| .k rfl rfl <| .k rfl rfl <| .nil) (.a (by rfl) (by first | rfl | omega | (simp; done) | (simp; omega) | assumption) <| .k rfl <| .nil) rfl) ?_ ?_
      · intro i hR1
        refine Tr.norm (S' := [⟨8, true, _, _⟩, ⟨19, true, _, _⟩, ⟨0, true, _, _⟩, ⟨1, true, _, _⟩, ⟨5, true, _, _⟩, ⟨7, true, _, _⟩, ⟨11, true, _, _⟩, ⟨12, true, _, _⟩, ⟨13, true, _, _⟩, ⟨17, true, _, _⟩, ⟨18, true, _, _⟩]) (M' := [⟨8, _, _⟩, ⟨5, _, _⟩]) rfl rfl ?_
        refine Tr.seq ?_
        refine Tr.rg ?_
        refine TrL.op (ok_lss rfl (fun _ => rfl) rfl (fun _ => rfl)) rfl rfl ?_
        refine TrL.fin ?_
        refine End.nxt ?_
        refine Tr.seq ?_
        refine Tr.cnd rfl ?_ ?_
        · intro h7
          replace h7 := of_decide_eq_true h7
          refine Tr.skip ?_
          refine End.nxt ?_
          refine Tr.seq ?_
          refine Tr.blk ?_
          refine Tr.seq ?_
          refine Tr.rg ?_
          first | refine TrL.op (ok_idxN rfl (fun _ => rfl) rfl (fun _ => rfl) rfl (fun _ => by omega)) rfl rfl ?_ | refine TrL.op (ok_idxP rfl (fun _ => rfl) rfl (fun _ => rfl) rfl (fun _ => by omega)) rfl rfl ?_
          refine TrL.op (ok_ldP rfl (fun _ => rfl) rfl) rfl rfl ?_
          refine TrL.op (ok_assign rfl (fun _ => rfl)) rfl rfl ?_
          refine TrL.fin ?_
          refine End.nxt ?_
          refine Tr.rg ?_
          refine TrL.op (ok_move rfl (fun _ => rfl)) rfl rfl ?_
          refine TrL.op (ok_move rfl (fun _ => rfl)) rfl rfl ?_
          refine TrL.op (ok_move rfl (fun _ => rfl)) rfl rfl ?_
          refine TrL.op (ok_move rfl (fun _ => rfl)) rfl rfl ?_
          refine TrL.op (ok_call (fun hp => ct_intersect _ v _ _ (hl k (by omega)) (hl i (by omega))) (.a rfl (fun _ => rfl) <| .a rfl (fun _ => rfl) <| .a rfl (fun _ => rfl) <| .nil)) rfl rfl ?_
          refine TrL.new (ok_bsl eI 28 (fun hp => .cons rfl <| .nil) rfl rfl rfl rfl) rfl rfl rfl rfl ?_
          refine TrL.app rfl rfl rfl rfl rfl rfl rfl rfl (by first | omega | (simp only [List.length_cons, List.length_nil]; omega)) (by first | omega | (simp only [List.length_cons, List.length_nil]; omega)) ?_
          refine TrL.norm (S' := [⟨_, _, _, _⟩, ⟨_, _, _, _⟩, ⟨_, _, _, _⟩, ⟨_, _, _, _⟩, ⟨_, _, _, _⟩, ⟨_, _, _, _⟩, ⟨_, _, _, _⟩, ⟨_, _, _, _⟩, ⟨_, _, _, _⟩, ⟨_, _, _, _⟩, ⟨_, _, _, _⟩, ⟨_, _, _, _⟩, ⟨_, _, _, _⟩, ⟨_, _, _, _⟩, ⟨_, _, _, _⟩, ⟨_, _, _, _⟩, ⟨_, _, _, _⟩, ⟨_, _, _, _⟩, ⟨_, _, _, _⟩, ⟨_, _, _, _⟩, ⟨_, _, _, _⟩, ⟨_, _, _, _⟩]) rfl rfl ?_
          refine TrL.op (ok_assign rfl (fun _ => rfl)) rfl rfl ?_
          refine TrL.fin ?_
          refine End.blk ?_
          refine End.nxt ?_
          refine Tr.rg ?_
          refine TrL.op (ok_add rfl (fun _ => rfl) rfl (fun _ => rfl) (fun _ => by omega)) rfl rfl ?_
          refine TrL.op (ok_move rfl (fun _ => rfl)) rfl rfl ?_
          refine TrL.fin ?_
          exact End.lp (i + 1) (by first | rfl | omega | (simp; done) | (simp; omega) | assumption) (by omega) (Ent.mk (.o rfl (by first | rfl | omega | (simp; done) | (simp; omega) | assumption) rfl <| .i rfl (by first | rfl | omega | (simp; done) | (simp; omega) | assumption) <| .k rfl rfl <| .k rfl rfl <| .k rfl rfl <| .k rfl rfl <| .k rfl rfl <| .k rfl rfl <| .k rfl rfl <| .k rfl rfl <| .k rfl rfl <| .nil) (.a tab_succ.symm (by first | rfl | omega | (simp; done) | (simp; omega) | assumption) <| .k rfl <| .nil) rfl)
        · intro h7
          replace h7 := Int.not_lt.1 (of_decide_eq_false h7)
          refine Tr.exit ?_
          refine Exs.thn ?_
          refine Exs.thn ?_
          refine Exs.here ?_
          exact End.cut (i) (by omega) (Ent.mk (.o rfl (by first | rfl | omega | (simp; done) | (simp; omega) | assumption) rfl <| .i rfl (by first | rfl | omega | (simp; done) | (simp; omega) | assumption) <| .k rfl rfl <| .k rfl rfl <| .k rfl rfl <| .k rfl rfl <| .k rfl rfl <| .k rfl rfl <| .k rfl rfl <| .k rfl rfl <| .k rfl rfl <| .nil) (.a (by first | rfl | omega | (simp; done) | (simp; omega) | assumption) (by first | rfl | omega | (simp; done) | (simp; omega) | assumption) <| .k rfl <| .nil) rfl)
      · rintro _ rfl
        refine End.norm (S' := [⟨8, true, _, _⟩, ⟨19, true, _, _⟩, ⟨0, true, _, _⟩, ⟨1, true, _, _⟩, ⟨5, true, _, _⟩, ⟨7, true, _, _⟩, ⟨11, true, _, _⟩, ⟨12, true, _, _⟩, ⟨13, true, _, _⟩, ⟨17, true, _, _⟩, ⟨18, true, _, _⟩]) (M' := [⟨8, _, _⟩, ⟨5, _, _⟩]) rfl rfl ?_
        refine End.nxt ?_
        refine Tr.rg ?_
        refine TrL.op (ok_move rfl (fun _ => rfl)) rfl rfl ?_
        refine TrL.op (ok_move rfl (fun _ => rfl)) rfl rfl ?_
        refine TrL.frz 8 [8, 32] ⟨rfl, rfl, trivial⟩ (by simp only [lenMax]; omega) rfl ?_
        refine TrL.norm (S' := [⟨_, _, _, _⟩, ⟨_, _, _, _⟩, ⟨_, _, _, _⟩, ⟨_, _, _, _⟩, ⟨_, _, _, _⟩, ⟨_, _, _, _⟩, ⟨_, _, _, _⟩, ⟨_, _, _, _⟩, ⟨_, _, _, _⟩, ⟨_, _, _, _⟩, ⟨_, _, _, _⟩, ⟨_, _, _, _⟩, ⟨_, _, _, _⟩, ⟨_, _, _, _⟩, ⟨_, _, _, _⟩]) rfl rfl ?_
        refine TrL.new (ok_bsl (eL eI) 33 (fun hp => .cons rfl <| .nil) rfl rfl rfl rfl) rfl rfl rfl rfl ?_
        refine TrL.app rfl rfl rfl rfl rfl rfl rfl rfl (by first | omega | (simp only [List.length_cons, List.length_nil]; omega)) (by first | omega | (simp only [List.length_cons, List.length_nil]; omega)) ?_
        refine TrL.norm (S' := [⟨_, _, _, _⟩, ⟨_, _, _, _⟩, ⟨_, _, _, _⟩, ⟨_, _, _, _⟩, ⟨_, _, _, _⟩, ⟨_, _, _, _⟩, ⟨_, _, _, _⟩, ⟨_, _, _, _⟩, ⟨_, _, _, _⟩, ⟨_, _, _, _⟩, ⟨_, _, _, _⟩, ⟨_, _, _, _⟩, ⟨_, _, _, _⟩, ⟨_, _, _, _⟩, ⟨_, _, _, _⟩, ⟨_, _, _, _⟩, ⟨_, _, _, _⟩]) rfl rfl ?_
        refine TrL.op (ok_assign rfl (fun _ => rfl)) rfl rfl ?_
        refine TrL.fin ?_
        refine End.blk ?_
        refine End.nxt ?_
        refine Tr.rg ?_
        refine TrL.op (ok_add rfl (fun _ => rfl) rfl (fun _ => rfl) (fun _ => by omega)) rfl rfl ?_
        refine TrL.op (ok_move rfl (fun _ => rfl)) rfl rfl ?_
        refine TrL.fin ?_
        exact End.lp (k + 1) (by first | rfl | omega | (simp; done) | (simp; omega) | assumption) (by omega) (Ent.mk (.o rfl (by first | rfl | omega | (simp; done) | (simp; omega) | assumption) rfl <| .i rfl (by first | rfl | omega | (simp; done) | (simp; omega) | assumption) <| .k rfl rfl <| .k rfl rfl <| .k rfl rfl <| .k rfl rfl <| .nil) (.a tab_succ.symm (by first | rfl | omega | (simp; done) | (simp; omega) | assumption) <| .nil) rfl)
    · intro h3
      replace h3 := Int.not_lt.1 (of_decide_eq_false h3)
      refine Tr.exit ?_
      refine Exs.thn ?_
      refine Exs.thn ?_
      refine Exs.here ?_
      exact End.cut (k) (by omega) (Ent.mk (.o rfl (by first | rfl | omega | (simp; done) | (simp; omega) | assumption) rfl <| .i rfl (by first | rfl | omega | (simp; done) | (simp; omega) | assumption) <| .k rfl rfl <| .k rfl rfl <| .k rfl rfl <| .k rfl rfl <| .nil) (.a (by first | rfl | omega | (simp; done) | (simp; omega) | assumption) (by first | rfl | omega | (simp; done) | (simp; omega) | assumption) <| .nil) rfl)
  · rintro _ rfl
    refine End.norm (S' := [⟨5, true, _, _⟩, ⟨13, true, _, _⟩, ⟨0, true, _, _⟩, ⟨1, true, _, _⟩, ⟨11, true, _, _⟩, ⟨12, true, _, _⟩]) (M' := [⟨5, _, _⟩]) rfl rfl ?_
    refine End.nxt ?_
    refine Tr.seq ?_
    refine Tr.rg ?_
    refine TrL.op (ok_move rfl (fun _ => rfl)) rfl rfl ?_
    refine TrL.op (ok_assign rfl (fun _ => rfl)) rfl rfl ?_
    refine TrL.fin ?_
    refine End.nxt ?_
    refine Tr.frz 5 [4] ⟨rfl, trivial⟩ (by simp only [lenMax]; omega) rfl ?_
    refine Tr.ret ?_
    exact Rts.res1 (fn := Tryd.f55) rfl (.r rfl (by first | rfl | omega | (simp; done) | (simp; omega) | assumption) <| .nil)

set_option maxRecDepth 100000 in
theorem ct_hIntersect (o : Ori) (a b : List Int) : Ct Tryd.prog 27 [kRd eO o, kRd (eL eI) a, kRd (eL eI) b] (kTup [kI (if orE (chkO o) (orE (chkZ o a) (chkZ o b)) = 0 then W (isI o a b) else 0), kI (orE (chkO o) (orE (chkZ o a) (chkZ o b)))]) := by
  refine Ct.mk Tryd.func27 rfl Tryd.ntmps27 rfl (fun w J => ?_)
  refine Tr.seq ?_
  refine Tr.rg ?_
  refine TrL.new (ok_box 3 rfl (fun _ => rfl) rfl) rfl rfl rfl rfl ?_
  refine TrL.op (ok_assign rfl (fun _ => rfl)) rfl rfl ?_
  refine TrL.op (ok_assign rfl (fun _ => rfl)) rfl rfl ?_
  refine TrL.fin ?_
  refine End.nxt ?_
  refine Tr.seq ?_
  refine Tr.rg ?_
  refine TrL.op (ok_ldBS rfl (fun _ => rfl)) rfl rfl ?_
  refine TrL.op (ok_call (fun hp => ct_open _) (.s rfl (fun _ => rfl) rfl <| .nil)) rfl rfl ?_
  refine TrL.op (ok_move rfl (fun _ => rfl)) rfl rfl ?_
  refine TrL.op (ok_ext rfl (fun _ => rfl) rfl) rfl rfl ?_
  refine TrL.op (ok_ext rfl (fun _ => rfl) rfl) rfl rfl ?_
  refine TrL.op (ok_assign rfl (fun _ => rfl)) rfl rfl ?_
  refine TrL.op (ok_assign rfl (fun _ => rfl)) rfl rfl ?_
  refine TrL.fin ?_
  refine End.nxt ?_
  refine Tr.seq ?_
  refine Tr.seq ?_
  refine Tr.rg ?_
  refine TrL.op (ok_move rfl (fun _ => rfl)) rfl rfl ?_
  refine TrL.op (ok_neq rfl (fun _ => rfl) rfl (fun _ => rfl)) rfl rfl ?_
  refine TrL.fin ?_
  refine End.nxt ?_
  refine Tr.cnd rfl ?_ ?_
  · intro h2
    replace h2 := of_decide_eq_true h2
    refine Tr.seq ?_
    refine Tr.rg ?_
    refine TrL.op (ok_move rfl (fun _ => rfl)) rfl rfl ?_
    refine TrL.op (ok_assign rfl (fun _ => rfl)) rfl rfl ?_
    refine TrL.op (ok_assign rfl (fun _ => rfl)) rfl rfl ?_
    refine TrL.fin ?_
    refine End.nxt ?_
    refine Tr.ret ?_
    refine Rts.thn ?_
    exact Rts.res (fn := Tryd.f27) (ts := [6, 7]) rfl rfl (.i rfl (by rw [orE_l h2, if_neg h2]) <| .i rfl (by rw [orE_l h2]) <| .nil)
  · intro h2
    replace h2 := Classical.not_not.1 (of_decide_eq_false h2)
    have v : Valid o := valid_of h2
    refine Tr.ifT (s := 8) rfl (decide_eq_true h2) rfl ?_
    refine Tr.skip ?_
    refine End.nxt ?_
    refine Tr.seq ?_
    refine Tr.seq ?_
    refine Tr.rg ?_
    refine TrL.op (ok_move rfl (fun _ => rfl)) rfl rfl ?_
    refine TrL.op (ok_move rfl (fun _ => rfl)) rfl rfl ?_
    refine TrL.op (ok_buildL [(0, 1), (1, 1)] rfl (fun hp => .cons rfl rfl rfl <| .cons rfl rfl rfl <| .nil)) rfl rfl ?_
    refine TrL.op (ok_move rfl (fun _ => rfl)) rfl rfl ?_
    refine TrL.fin ?_
    refine End.nxt ?_
    refine Tr.for1 (σ := Nat) [⟨1, true, _, _⟩, ⟨2, true, _, _⟩, ⟨8, true, _, _⟩, ⟨23, true, _, _⟩] [] (fun k => [⟨24, true, [], kI (k : Int)⟩]) (fun k => []) (fun k => k ≤ 2 ∧ (0 < k → chkZ o a = 0) ∧ (1 < k → chkZ o b = 0)) (fun k => chkZ o a = 0 ∧ chkZ o b = 0) (fun k => 2 - k) (0) ⟨by omega, fun h => absurd h (by omega), fun h => absurd h (by omega)⟩ (Ent.mk (.i rfl (by first | rfl | omega | (simp; done) | (simp; omega) | assumption) <| .k rfl rfl <| .k rfl rfl <| .k rfl rfl <| .k rfl rfl <| .nil) (.nil) rfl) ?_ ?_
    · rintro k ⟨hk, hp, hq⟩
      refine Tr.norm (S' := [⟨24, true, _, _⟩, ⟨1, true, _, _⟩, ⟨2, true, _, _⟩, ⟨8, true, _, _⟩, ⟨23, true, _, _⟩]) (M' := []) rfl rfl ?_
      refine Tr.seq ?_
      refine Tr.rg ?_
      refine TrL.op (ok_lss rfl (fun _ => rfl) rfl (fun _ => rfl)) rfl rfl ?_
      refine TrL.fin ?_
      refine End.nxt ?_
      refine Tr.seq ?_
      refine Tr.cnd rfl ?_ ?_
      · intro h5
        replace h5 := of_decide_eq_true h5
        refine Tr.skip ?_
        refine End.nxt ?_
        refine Tr.seq ?_
        refine Tr.blk ?_
        refine Tr.seq ?_
        refine Tr.rg ?_
        refine TrL.op (ok_idxA (eL eI) rfl (fun _ => rfl) rfl (fun _ => rfl) rfl rfl (fun _ => ⟨by omega, by simp; omega⟩)) rfl rfl ?_
        refine TrL.op (ok_assign rfl (fun _ => rfl)) rfl rfl ?_
        refine TrL.fin ?_
        refine End.nxt ?_
        refine Tr.seq ?_
        refine Tr.rg ?_
        refine TrL.op (ok_move rfl (fun _ => rfl)) rfl rfl ?_
        refine TrL.op (ok_move rfl (fun _ => rfl)) rfl rfl ?_
        refine TrL.op (ok_call (fun hp => ct_checkCycle _ v _) (.a rfl (fun _ => rfl) <| .a rfl (fun _ => rfl) <| .nil)) rfl rfl ?_
        refine TrL.op (ok_assign rfl (fun _ => rfl)) rfl rfl ?_
        refine TrL.fin ?_
        refine End.nxt ?_
        refine Tr.seq ?_
        refine Tr.rg ?_
        refine TrL.op (ok_move rfl (fun _ => rfl)) rfl rfl ?_
        refine TrL.op (ok_neq rfl (fun _ => rfl) rfl (fun _ => rfl)) rfl rfl ?_
        refine TrL.fin ?_
        refine End.nxt ?_
        refine Tr.cnd rfl ?_ ?_
        · intro h8
          replace h8 := of_decide_eq_true h8
          refine Tr.seq ?_
          refine Tr.rg ?_
          refine TrL.op (ok_move rfl (fun _ => rfl)) rfl rfl ?_
          refine TrL.op (ok_assign rfl (fun _ => rfl)) rfl rfl ?_
          refine TrL.op (ok_assign rfl (fun _ => rfl)) rfl rfl ?_
          refine TrL.fin ?_
          refine End.nxt ?_
          refine Tr.ret ?_
          refine Rts.out ?_
          refine Rts.thn ?_
          refine Rts.thn ?_
          refine Rts.out ?_
          refine Rts.thn ?_
          refine Rts.thn ?_
          exact Rts.res (fn := Tryd.f27) (ts := [6, 7]) rfl rfl (.i rfl (by rw [orE_r h2, err2 (by omega) hp h8, if_neg h8]) <| .i rfl (by rw [orE_r h2, err2 (by omega) hp h8]) <| .nil)
        · intro h8
          replace h8 := Classical.not_not.1 (of_decide_eq_false h8)
          refine Tr.skip ?_
          refine End.blk ?_
          refine End.nxt ?_
          refine Tr.rg ?_
          refine TrL.op (ok_add rfl (fun _ => rfl) rfl (fun _ => rfl) (fun _ => by omega)) rfl rfl ?_
          refine TrL.op (ok_move rfl (fun _ => rfl)) rfl rfl ?_
          refine TrL.fin ?_
          exact End.lp (k + 1) ⟨by omega, fun _ => by (rcases k with _ | k; exact h8; exact hp (by omega)), fun _ => by (rcases k with _ | _ | k; omega; exact h8; exact hq (by omega))⟩ (by omega) (Ent.mk (.i rfl (by first | rfl | omega | (simp; done) | (simp; omega) | assumption) <| .k rfl rfl <| .k rfl rfl <| .k rfl rfl <| .k rfl rfl <| .nil) (.nil) rfl)
      · intro h5
        replace h5 := Int.not_lt.1 (of_decide_eq_false h5)
        refine Tr.exit ?_
        refine Exs.thn ?_
        refine Exs.thn ?_
        refine Exs.here ?_
        exact End.cut (k) ⟨hp (by omega), hq (by omega)⟩ (Ent.mk (.i rfl (by first | rfl | omega | (simp; done) | (simp; omega) | assumption) <| .k rfl rfl <| .k rfl rfl <| .k rfl rfl <| .k rfl rfl <| .nil) (.nil) rfl)
    · rintro k ⟨ha, hb⟩
      refine End.norm (S' := [⟨24, true, _, _⟩, ⟨1, true, _, _⟩, ⟨2, true, _, _⟩, ⟨8, true, _, _⟩, ⟨23, true, _, _⟩]) (M' := []) rfl rfl ?_
      have ha2 := chkC_len (orE_zero.1 ha).1
      have hb2 := chkC_len (orE_zero.1 hb).1
      refine End.nxt ?_
      refine Tr.seq ?_
      refine Tr.rg ?_
      refine TrL.op (ok_move rfl (fun _ => rfl)) rfl rfl ?_
      refine TrL.op (ok_move rfl (fun _ => rfl)) rfl rfl ?_
      refine TrL.op (ok_move rfl (fun _ => rfl)) rfl rfl ?_
      refine TrL.op (ok_call (fun hp => ct_intersect _ v _ _ ha2 hb2) (.a rfl (fun _ => rfl) <| .a rfl (fun _ => rfl) <| .a rfl (fun _ => rfl) <| .nil)) rfl rfl ?_
      refine TrL.op (ok_assign rfl (fun _ => rfl)) rfl rfl ?_
      refine TrL.op (ok_assign rfl (fun _ => rfl)) rfl rfl ?_
      refine TrL.fin ?_
      refine End.nxt ?_
      refine Tr.ret ?_
      exact Rts.res (fn := Tryd.f27) (ts := [6, 7]) rfl rfl (.i rfl (by rw [orE_r h2, orE_r ha, if_pos hb]) <| .i rfl (by rw [orE_r h2, orE_r ha, hb]) <| .nil)

set_option maxRecDepth 100000 in
theorem ct_hGram (o : Ori) (l : List (List Int)) : Ct Tryd.prog 31 [kRd eO o, kRd (eL (eL eI)) l] (kTup [kRd (eL (eL eI)) (if orE (chkO o) (chkZs o l) = 0 then gramL o l else []), kI (orE (chkO o) (chkZs o l))]) := by
  refine Ct.mk Tryd.func31 rfl Tryd.ntmps31 rfl (fun w J => ?_)
  refine Tr.seq ?_
  refine Tr.rg ?_
  refine TrL.new (ok_box 2 rfl (fun _ => rfl) rfl) rfl rfl rfl rfl ?_
  refine TrL.op (ok_assign rfl (fun _ => rfl)) rfl rfl ?_
  refine TrL.op (ok_assign rfl (fun _ => rfl)) rfl rfl ?_
  refine TrL.fin ?_
  refine End.nxt ?_
  refine Tr.seq ?_
  refine Tr.rg ?_
  refine TrL.op (ok_ldBS rfl (fun _ => rfl)) rfl rfl ?_
  refine TrL.op (ok_call (fun hp => ct_open _) (.s rfl (fun _ => rfl) rfl <| .nil)) rfl rfl ?_
  refine TrL.op (ok_move rfl (fun _ => rfl)) rfl rfl ?_
  refine TrL.op (ok_ext rfl (fun _ => rfl) rfl) rfl rfl ?_
  refine TrL.op (ok_ext rfl (fun _ => rfl) rfl) rfl rfl ?_
  refine TrL.op (ok_assign rfl (fun _ => rfl)) rfl rfl ?_
  refine TrL.op (ok_assign rfl (fun _ => rfl)) rfl rfl ?_
  refine TrL.fin ?_
  refine End.nxt ?_
  refine Tr.seq ?_
  refine Tr.seq ?_
  refine Tr.rg ?_
  refine TrL.op (ok_move rfl (fun _ => rfl)) rfl rfl ?_
  refine TrL.op (ok_neq rfl (fun _ => rfl) rfl (fun _ => rfl)) rfl rfl ?_
  refine TrL.fin ?_
  refine End.nxt ?_
  refine Tr.cnd rfl ?_ ?_
  · intro h2
    replace h2 := of_decide_eq_true h2
    refine Tr.seq ?_
    refine Tr.rg ?_
    refine TrL.op (ok_move rfl (fun _ => rfl)) rfl rfl ?_
    refine TrL.op (ok_assign rfl (fun _ => rfl)) rfl rfl ?_
    refine TrL.op (ok_assign rfl (fun _ => rfl)) rfl rfl ?_
    refine TrL.fin ?_
    refine End.nxt ?_
    refine Tr.ret ?_
    refine Rts.thn ?_
    exact Rts.res (fn := Tryd.f31) (ts := [4, 5]) rfl rfl (.n rfl (by rw [orE_l h2, if_neg h2]) <| .i rfl (by rw [orE_l h2]) <| .nil)
  · intro h2
    replace h2 := Classical.not_not.1 (of_decide_eq_false h2)
    have v : Valid o := valid_of h2
    refine Tr.ifT (s := 6) rfl (decide_eq_true h2) rfl ?_
    refine Tr.skip ?_
    refine End.nxt ?_
    refine Tr.seq ?_
    refine Tr.seq ?_
    refine Tr.rg ?_
    refine TrL.op (ok_move rfl (fun _ => rfl)) rfl rfl ?_
    refine TrL.op (ok_move rfl (fun _ => rfl)) rfl rfl ?_
    refine TrL.op (ok_call (fun hp => ct_checkCycles _ v _) (.a rfl (fun _ => rfl) <| .a rfl (fun _ => rfl) <| .nil)) rfl rfl ?_
    refine TrL.op (ok_assign rfl (fun _ => rfl)) rfl rfl ?_
    refine TrL.fin ?_
    refine End.nxt ?_
    refine Tr.seq ?_
    refine Tr.rg ?_
    refine TrL.op (ok_move rfl (fun _ => rfl)) rfl rfl ?_
    refine TrL.op (ok_neq rfl (fun _ => rfl) rfl (fun _ => rfl)) rfl rfl ?_
    refine TrL.fin ?_
    refine End.nxt ?_
    refine Tr.cnd rfl ?_ ?_
    · intro h5
      replace h5 := of_decide_eq_true h5
      refine Tr.seq ?_
      refine Tr.rg ?_
      refine TrL.op (ok_move rfl (fun _ => rfl)) rfl rfl ?_
      refine TrL.op (ok_assign rfl (fun _ => rfl)) rfl rfl ?_
      refine TrL.op (ok_assign rfl (fun _ => rfl)) rfl rfl ?_
      refine TrL.fin ?_
      refine End.nxt ?_
      refine Tr.ret ?_
      refine Rts.thn ?_
      exact Rts.res (fn := Tryd.f31) (ts := [4, 5]) rfl rfl (.n rfl (by rw [orE_r h2, if_neg h5]) <| .i rfl (by rw [orE_r h2]) <| .nil)
    · intro h5
      replace h5 := Classical.not_not.1 (of_decide_eq_false h5)
      have hcl := chkZs_all h5
      refine Tr.skip ?_
      refine End.nxt ?_
      refine Tr.seq ?_
      refine Tr.rg ?_
      refine TrL.op (ok_move rfl (fun _ => rfl)) rfl rfl ?_
      refine TrL.op (ok_move rfl (fun _ => rfl)) rfl rfl ?_
      refine TrL.op (ok_call (fun hp => ct_gram _ v _ hcl.2 (by omega)) (.a rfl (fun _ => rfl) <| .a rfl (fun _ => rfl) <| .nil)) rfl rfl ?_
      refine TrL.op (ok_assign rfl (fun _ => rfl)) rfl rfl ?_
      refine TrL.op (ok_assign rfl (fun _ => rfl)) rfl rfl ?_
      refine TrL.fin ?_
      refine End.nxt ?_
      refine Tr.ret ?_
      exact Rts.res (fn := Tryd.f31) (ts := [4, 5]) rfl rfl (.r rfl (by rw [orE_r h2, if_pos h5]) <| .i rfl (by rw [orE_r h2, h5]) <| .nil)

set_option maxRecDepth 100000 in
theorem ct_hHolonomy (o : Ori) (c : List Int) : Ct Tryd.prog 12 [kRd eO o, kRd (eL eI) c] (kTup [kI (if orE (chkO o) (chkC o.1.length c) = 0 then holX o c else 0), kI (if orE (chkO o) (chkC o.1.length c) = 0 then holY o c else 0), kI (orE (chkO o) (chkC o.1.length c))]) := by
  refine Ct.mk Tryd.func12 rfl Tryd.ntmps12 rfl (fun w J => ?_)
  refine Tr.seq ?_
  refine Tr.rg ?_
  refine TrL.new (ok_box 2 rfl (fun _ => rfl) rfl) rfl rfl rfl rfl ?_
  refine TrL.op (ok_assign rfl (fun _ => rfl)) rfl rfl ?_
  refine TrL.op (ok_assign rfl (fun _ => rfl)) rfl rfl ?_
  refine TrL.op (ok_assign rfl (fun _ => rfl)) rfl rfl ?_
  refine TrL.fin ?_
  refine End.nxt ?_
  refine Tr.seq ?_
  refine Tr.rg ?_
  refine TrL.op (ok_ldBS rfl (fun _ => rfl)) rfl rfl ?_
  refine TrL.op (ok_call (fun hp => ct_open _) (.s rfl (fun _ => rfl) rfl <| .nil)) rfl rfl ?_
  refine TrL.op (ok_move rfl (fun _ => rfl)) rfl rfl ?_
  refine TrL.op (ok_ext rfl (fun _ => rfl) rfl) rfl rfl ?_
  refine TrL.op (ok_ext rfl (fun _ => rfl) rfl) rfl rfl ?_
  refine TrL.op (ok_assign rfl (fun _ => rfl)) rfl rfl ?_
  refine TrL.op (ok_assign rfl (fun _ => rfl)) rfl rfl ?_
  refine TrL.fin ?_
  refine End.nxt ?_
  refine Tr.seq ?_
  refine Tr.seq ?_
  refine Tr.rg ?_
  refine TrL.op (ok_move rfl (fun _ => rfl)) rfl rfl ?_
  refine TrL.op (ok_neq rfl (fun _ => rfl) rfl (fun _ => rfl)) rfl rfl ?_
  refine TrL.fin ?_
  refine End.nxt ?_
  refine Tr.cnd rfl ?_ ?_
  · intro h2
    replace h2 := of_decide_eq_true h2
    refine Tr.seq ?_
    refine Tr.rg ?_
    refine TrL.op (ok_move rfl (fun _ => rfl)) rfl rfl ?_
    refine TrL.op (ok_assign rfl (fun _ => rfl)) rfl rfl ?_
    refine TrL.op (ok_assign rfl (fun _ => rfl)) rfl rfl ?_
    refine TrL.op (ok_assign rfl (fun _ => rfl)) rfl rfl ?_
    refine TrL.fin ?_
    refine End.nxt ?_
    refine Tr.ret ?_
    refine Rts.thn ?_
    exact Rts.res (fn := Tryd.f12) (ts := [4, 5, 6]) rfl rfl (.i rfl (by rw [orE_l h2, if_neg h2]) <| .i rfl (by rw [orE_l h2, if_neg h2]) <| .i rfl (by rw [orE_l h2]) <| .nil)
  · intro h2
    replace h2 := Classical.not_not.1 (of_decide_eq_false h2)
    have v : Valid o := valid_of h2
    have hv0 := v.pos
    have hv1 := v.len
    have hv2 := v.le
    have hl1 := invL_len o.1
    have hl2 := invL_len o.2
    have hl3 := vertL_len (o := o)
    have hl4 := vtx_le (o := o)
    refine Tr.ifT (s := 7) rfl (decide_eq_true h2) rfl ?_
    refine Tr.skip ?_
    refine End.nxt ?_
    refine Tr.seq ?_
    refine Tr.seq ?_
    refine Tr.rg ?_
    refine TrL.op (ok_move rfl (fun _ => rfl)) rfl rfl ?_
    refine TrL.op (ok_move rfl (fun _ => rfl)) rfl rfl ?_
    refine TrL.op (ok_call (fun hp => ct_checkChain _ v _) (.a rfl (fun _ => rfl) <| .a rfl (fun _ => rfl) <| .nil)) rfl rfl ?_
    refine TrL.op (ok_assign rfl (fun _ => rfl)) rfl rfl ?_
    refine TrL.fin ?_
    refine End.nxt ?_
    refine Tr.seq ?_
    refine Tr.rg ?_
    refine TrL.op (ok_move rfl (fun _ => rfl)) rfl rfl ?_
    refine TrL.op (ok_neq rfl (fun _ => rfl) rfl (fun _ => rfl)) rfl rfl ?_
    refine TrL.fin ?_
    refine End.nxt ?_
    refine Tr.cnd rfl ?_ ?_
    · intro h5
      replace h5 := of_decide_eq_true h5
      refine Tr.seq ?_
      refine Tr.rg ?_
      refine TrL.op (ok_move rfl (fun _ => rfl)) rfl rfl ?_
      refine TrL.op (ok_assign rfl (fun _ => rfl)) rfl rfl ?_
      refine TrL.op (ok_assign rfl (fun _ => rfl)) rfl rfl ?_
      refine TrL.op (ok_assign rfl (fun _ => rfl)) rfl rfl ?_
      refine TrL.fin ?_
      refine End.nxt ?_
      refine Tr.ret ?_
      refine Rts.thn ?_
      exact Rts.res (fn := Tryd.f12) (ts := [4, 5, 6]) rfl rfl (.i rfl (by rw [orE_r h2, if_neg h5]) <| .i rfl (by rw [orE_r h2, if_neg h5]) <| .i rfl (by rw [orE_r h2]) <| .nil)
    · intro h5
      replace h5 := Classical.not_not.1 (of_decide_eq_false h5)
      have hcl := chkC_len h5
      refine Tr.skip ?_
      refine End.nxt ?_
      refine Tr.seq ?_
      refine Tr.seq ?_
      refine Tr.rg ?_
      refine TrL.op (ok_move rfl (fun _ => rfl)) rfl rfl ?_
      refine TrL.op (ok_nilP rfl (fun _ => rfl)) rfl rfl ?_
      refine TrL.op (ok_fldP rfl (fun _ => rfl) rfl) rfl rfl ?_
      refine TrL.op (ok_ldP rfl (fun _ => rfl) rfl) rfl rfl ?_
      refine TrL.op (ok_move rfl (fun _ => rfl)) rfl rfl ?_
      refine TrL.fin ?_
      refine End.nxt ?_
      refine Tr.for1 (σ := Nat) [⟨1, true, _, _⟩, ⟨7, true, _, _⟩, ⟨27, true, _, _⟩] [] (fun k => [⟨4, true, [], kI (W (sumTo (nth c) k))⟩, ⟨5, true, [], kI (W (sumTo (fun i => nth c ((o.1.length : Int) + i).toNat) k))⟩, ⟨28, true, [], kI (k : Int)⟩]) (fun k => []) (fun k => k ≤ o.1.length) (fun k => k = o.1.length) (fun k => o.1.length - k) (0) (by first | rfl | omega | (simp; done) | (simp; omega) | assumption) (Ent.mk (.i rfl (by first | rfl | omega | (simp; done) | (simp; omega) | assumption) <| .i rfl (by first | rfl | omega | (simp; done) | (simp; omega) | assumption) <| .i rfl (by first | rfl | omega | (simp; done) | (simp; omega) | assumption) <| .k rfl rfl <| .k rfl rfl <| .k rfl rfl <| .nil) (.nil) rfl) ?_ ?_
      · intro k hR0
        refine Tr.norm (S' := [⟨4, true, _, _⟩, ⟨5, true, _, _⟩, ⟨28, true, _, _⟩, ⟨1, true, _, _⟩, ⟨7, true, _, _⟩, ⟨27, true, _, _⟩]) (M' := []) rfl rfl ?_
        refine Tr.seq ?_
        refine Tr.rg ?_
        refine TrL.op (ok_lss rfl (fun _ => rfl) rfl (fun _ => rfl)) rfl rfl ?_
        refine TrL.fin ?_
        refine End.nxt ?_
        refine Tr.seq ?_
        refine Tr.cnd rfl ?_ ?_
        · intro h8
          replace h8 := of_decide_eq_true h8
          refine Tr.skip ?_
          refine End.nxt ?_
          refine Tr.seq ?_
          refine Tr.blk ?_
          refine Tr.seq ?_
          refine Tr.rg ?_
          refine TrL.op (ok_move rfl (fun _ => rfl)) rfl rfl ?_
          refine TrL.op (ok_assign rfl (fun _ => rfl)) rfl rfl ?_
          refine TrL.fin ?_
          refine End.nxt ?_
          refine Tr.seq ?_
          refine Tr.rg ?_
          refine TrL.op (ok_move rfl (fun _ => rfl)) rfl rfl ?_
          refine TrL.op (ok_move rfl (fun _ => rfl)) rfl rfl ?_
          refine TrL.op (ok_move rfl (fun _ => rfl)) rfl rfl ?_
          first | refine TrL.op (ok_idxN rfl (fun _ => rfl) rfl (fun _ => rfl) rfl (fun _ => by omega)) rfl rfl ?_ | refine TrL.op (ok_idxP rfl (fun _ => rfl) rfl (fun _ => rfl) rfl (fun _ => by omega)) rfl rfl ?_
          refine TrL.op (ok_ldP rfl (fun _ => rfl) rfl) rfl rfl ?_
          refine TrL.op (ok_addW rfl (fun _ => rfl) rfl (fun _ => rfl)) rfl rfl ?_
          refine TrL.op (ok_assign rfl (fun _ => rfl)) rfl rfl ?_
          refine TrL.fin ?_
          refine End.nxt ?_
          refine Tr.rg ?_
          refine TrL.op (ok_move rfl (fun _ => rfl)) rfl rfl ?_
          refine TrL.op (ok_move rfl (fun _ => rfl)) rfl rfl ?_
          refine TrL.op (ok_move rfl (fun _ => rfl)) rfl rfl ?_
          refine TrL.op (ok_nilP rfl (fun _ => rfl)) rfl rfl ?_
          refine TrL.op (ok_fldP rfl (fun _ => rfl) rfl) rfl rfl ?_
          refine TrL.op (ok_ldP rfl (fun _ => rfl) rfl) rfl rfl ?_
          refine TrL.op (ok_move rfl (fun _ => rfl)) rfl rfl ?_
          refine TrL.op (ok_add rfl (fun _ => rfl) rfl (fun _ => rfl) (fun _ => by omega)) rfl rfl ?_
          first | refine TrL.op (ok_idxN rfl (fun _ => rfl) rfl (fun _ => rfl) rfl (fun _ => by omega)) rfl rfl ?_ | refine TrL.op (ok_idxP rfl (fun _ => rfl) rfl (fun _ => rfl) rfl (fun _ => by omega)) rfl rfl ?_
          refine TrL.op (ok_ldP rfl (fun _ => rfl) rfl) rfl rfl ?_
          refine TrL.op (ok_addW rfl (fun _ => rfl) rfl (fun _ => rfl)) rfl rfl ?_
          refine TrL.op (ok_assign rfl (fun _ => rfl)) rfl rfl ?_
          refine TrL.fin ?_
          refine End.blk ?_
          refine End.nxt ?_
          refine Tr.rg ?_
          refine TrL.op (ok_add rfl (fun _ => rfl) rfl (fun _ => rfl) (fun _ => by omega)) rfl rfl ?_
          refine TrL.op (ok_move rfl (fun _ => rfl)) rfl rfl ?_
          refine TrL.fin ?_
          exact End.lp (k + 1) (by first | rfl | omega | (simp; done) | (simp; omega) | assumption) (by omega) (Ent.mk (.i rfl (W_add_l _ _) <| .i rfl (W_add_l _ _) <| .i rfl (by first | rfl | omega | (simp; done) | (simp; omega) | assumption) <| .k rfl rfl <| .k rfl rfl <| .k rfl rfl <| .nil) (.nil) rfl)
        · intro h8
          replace h8 := Int.not_lt.1 (of_decide_eq_false h8)
          refine Tr.exit ?_
          refine Exs.thn ?_
          refine Exs.thn ?_
          refine Exs.here ?_
          exact End.cut (k) (by omega) (Ent.mk (.i rfl (by first | rfl | omega | (simp; done) | (simp; omega) | assumption) <| .i rfl (by first | rfl | omega | (simp; done) | (simp; omega) | assumption) <| .i rfl (by first | rfl | omega | (simp; done) | (simp; omega) | assumption) <| .k rfl rfl <| .k rfl rfl <| .k rfl rfl <| .nil) (.nil) rfl)
      · rintro _ rfl
        refine End.norm (S' := [⟨4, true, _, _⟩, ⟨5, true, _, _⟩, ⟨28, true, _, _⟩, ⟨1, true, _, _⟩, ⟨7, true, _, _⟩, ⟨27, true, _, _⟩]) (M' := []) rfl rfl ?_
        refine End.nxt ?_
        refine Tr.seq ?_
        refine Tr.rg ?_
        refine TrL.op (ok_move rfl (fun _ => rfl)) rfl rfl ?_
        refine TrL.op (ok_move rfl (fun _ => rfl)) rfl rfl ?_
        refine TrL.op (ok_assign rfl (fun _ => rfl)) rfl rfl ?_
        refine TrL.op (ok_assign rfl (fun _ => rfl)) rfl rfl ?_
        refine TrL.op (ok_assign rfl (fun _ => rfl)) rfl rfl ?_
        refine TrL.fin ?_
        refine End.nxt ?_
        refine Tr.ret ?_
        exact Rts.res (fn := Tryd.f12) (ts := [4, 5, 6]) rfl rfl (.i rfl (by rw [orE_r h2, if_pos h5]; rfl) <| .i rfl (by rw [orE_r h2, if_pos h5]; rfl) <| .i rfl (by rw [orE_r h2, h5]) <| .nil)

set_option maxRecDepth 100000 in
theorem ct_hSquare (o : Ori) (i : Int) : Ct Tryd.prog 23 [kRd eO o, kI i] (kTup [kRd (eL eI) (if sqE o i = 0 then sqL o i else []), kI (sqE o i)]) := by
  refine Ct.mk Tryd.func23 rfl Tryd.ntmps23 rfl (fun w J => ?_)
  refine Tr.seq ?_
  refine Tr.rg ?_
  refine TrL.new (ok_box 2 rfl (fun _ => rfl) rfl) rfl rfl rfl rfl ?_
  refine TrL.op (ok_assign rfl (fun _ => rfl)) rfl rfl ?_
  refine TrL.op (ok_assign rfl (fun _ => rfl)) rfl rfl ?_
  refine TrL.fin ?_
  refine End.nxt ?_
  refine Tr.seq ?_
  refine Tr.rg ?_
  refine TrL.op (ok_ldBS rfl (fun _ => rfl)) rfl rfl ?_
  refine TrL.op (ok_call (fun hp => ct_open _) (.s rfl (fun _ => rfl) rfl <| .nil)) rfl rfl ?_
  refine TrL.op (ok_move rfl (fun _ => rfl)) rfl rfl ?_
  refine TrL.op (ok_ext rfl (fun _ => rfl) rfl) rfl rfl ?_
  refine TrL.op (ok_ext rfl (fun _ => rfl) rfl) rfl rfl ?_
  refine TrL.op (ok_assign rfl (fun _ => rfl)) rfl rfl ?_
  refine TrL.op (ok_assign rfl (fun _ => rfl)) rfl rfl ?_
  refine TrL.fin ?_
  refine End.nxt ?_
  refine Tr.seq ?_
  refine Tr.seq ?_
  refine Tr.rg ?_
  refine TrL.op (ok_move rfl (fun _ => rfl)) rfl rfl ?_
  refine TrL.op (ok_neq rfl (fun _ => rfl) rfl (fun _ => rfl)) rfl rfl ?_
  refine TrL.fin ?_
  refine End.nxt ?_
  refine Tr.cnd rfl ?_ ?_
  · intro h2
    replace h2 := of_decide_eq_true h2
    refine Tr.seq ?_
    refine Tr.rg ?_
    refine TrL.op (ok_move rfl (fun _ => rfl)) rfl rfl ?_
    refine TrL.op (ok_assign rfl (fun _ => rfl)) rfl rfl ?_
    refine TrL.op (ok_assign rfl (fun _ => rfl)) rfl rfl ?_
    refine TrL.fin ?_
    refine End.nxt ?_
    refine Tr.ret ?_
    refine Rts.thn ?_
    exact Rts.res (fn := Tryd.f23) (ts := [4, 5]) rfl rfl (.n rfl (by unfold sqE; rw [orE_l h2, if_neg h2]) <| .i rfl (by unfold sqE; rw [orE_l h2]) <| .nil)
  · intro h2
    replace h2 := Classical.not_not.1 (of_decide_eq_false h2)
    have v : Valid o := valid_of h2
    have hv0 := v.pos
    have hv1 := v.len
    have hv2 := v.le
    have hl1 := invL_len o.1
    have hl2 := invL_len o.2
    have hl3 := vertL_len (o := o)
    have hl4 := vtx_le (o := o)
    refine Tr.ifT (s := 6) rfl (decide_eq_true h2) rfl ?_
    refine Tr.skip ?_
    refine End.nxt ?_
    refine Tr.seq ?_
    refine Tr.seq ?_
    refine Tr.rg ?_
    refine TrL.op (ok_move rfl (fun _ => rfl)) rfl rfl ?_
    refine TrL.op (ok_lss rfl (fun _ => rfl) rfl (fun _ => rfl)) rfl rfl ?_
    refine TrL.op (ok_move rfl (fun _ => rfl)) rfl rfl ?_
    refine TrL.gd rfl rfl rfl (ok_move rfl (fun _ => rfl)) rfl rfl ?_
    refine TrL.gd rfl rfl rfl (ok_move rfl (fun _ => rfl)) rfl rfl ?_
    refine TrL.gd rfl rfl rfl (ok_nilP rfl id) rfl rfl ?_
    refine TrL.gd rfl rfl rfl (ok_fldP rfl id rfl) rfl rfl ?_
    refine TrL.gd rfl rfl rfl (ok_ldP rfl id rfl) rfl rfl ?_
    refine TrL.gd rfl rfl rfl (ok_geq rfl id rfl id) rfl rfl ?_
    refine TrL.op (ok_or rfl (fun _ => rfl) rfl (fun hp h => gdF2 ((fun _ => rfl) hp) h)) rfl rfl ?_
    refine TrL.fin ?_
    refine End.nxt ?_
    refine Tr.cnd rfl ?_ ?_
    · intro h4
      try simp only [decide_eq_true_eq, Bool.or_eq_true] at h4
      refine Tr.seq ?_
      refine Tr.rg ?_
      refine TrL.op (ok_assign rfl (fun _ => rfl)) rfl rfl ?_
      refine TrL.op (ok_assign rfl (fun _ => rfl)) rfl rfl ?_
      refine TrL.fin ?_
      refine End.nxt ?_
      refine Tr.ret ?_
      refine Rts.thn ?_
      exact Rts.res (fn := Tryd.f23) (ts := [4, 5]) rfl rfl (.n rfl (by unfold sqE; rw [orE_r h2, if_neg (by rw [if_neg (by omega)]; simp)]) <| .i rfl (by unfold sqE; rw [orE_r h2, if_neg (by omega)]) <| .nil)
    · intro h4
      try simp only [decide_eq_false_iff_not, Bool.or_eq_false_iff, Int.not_lt, Int.not_le] at h4
      have hr := v.ri (i := i.toNat) (by omega)
      have hu := v.ui (i := i.toNat) (by omega)
      refine Tr.skip ?_
      refine End.nxt ?_
      refine Tr.seq ?_
      refine Tr.rg ?_
      refine TrL.op (ok_move rfl (fun _ => rfl)) rfl rfl ?_
      refine TrL.op (ok_nilP rfl (fun _ => rfl)) rfl rfl ?_
      refine TrL.op (ok_fldP rfl (fun _ => rfl) rfl) rfl rfl ?_
      refine TrL.op (ok_ldP rfl (fun _ => rfl) rfl) rfl rfl ?_
      refine TrL.op (ok_mul rfl (fun _ => rfl) rfl (fun _ => rfl) (fun _ => by omega)) rfl rfl ?_
      refine TrL.new (ok_make eI 32 rfl (fun _ => rfl) rfl (fun _ => rfl) rfl rfl (fun _ => by omega)) rfl rfl rfl rfl ?_
      refine TrL.op (ok_assign rfl (fun _ => rfl)) rfl rfl ?_
      refine TrL.fin ?_
      refine End.nxt ?_
      refine Tr.seq ?_
      refine Tr.rg ?_
      refine TrL.op (ok_move rfl (fun _ => rfl)) rfl rfl ?_
      refine TrL.op (ok_move rfl (fun _ => rfl)) rfl rfl ?_
      first | refine TrL.op (ok_idxEN rfl (fun _ => rfl) rfl (fun _ => rfl) (fun _ => by omega)) rfl rfl ?_ | refine TrL.op (ok_idxE rfl (fun _ => rfl) rfl (fun _ => rfl) (fun _ => by omega)) rfl rfl ?_
      refine TrL.op (ok_ldE rfl (fun _ => rfl) rfl rfl rfl) rfl rfl ?_
      refine TrL.op (ok_addW rfl (fun _ => rfl) rfl (fun _ => rfl)) rfl rfl ?_
      first | refine TrL.op (ok_idxEN rfl (fun _ => rfl) rfl (fun _ => rfl) (fun _ => by omega)) rfl rfl ?_ | refine TrL.op (ok_idxE rfl (fun _ => rfl) rfl (fun _ => rfl) (fun _ => by omega)) rfl rfl ?_
      refine TrL.stE rfl rfl rfl rfl rfl ?_
      refine TrL.fin ?_
      refine End.nxt ?_
      refine Tr.seq ?_
      refine Tr.draw 13 mixed (by kernel_rfl) ?_
      refine RunD.op (ok_move rfl (fun _ => rfl)) rfl rfl ?_
      refine RunD.op (ok_move rfl (fun _ => rfl)) rfl rfl ?_
      refine RunD.op (ok_nilP rfl (fun _ => rfl)) rfl rfl ?_
      refine RunD.op (ok_fldP rfl (fun _ => rfl) rfl) rfl rfl ?_
      refine RunD.op (ok_ldP rfl (fun _ => rfl) rfl) rfl rfl ?_
      refine RunD.op (ok_move rfl (fun _ => rfl)) rfl rfl ?_
      refine RunD.op (ok_nilP rfl (fun _ => rfl)) rfl rfl ?_
      refine RunD.op (ok_fldP rfl (fun _ => rfl) rfl) rfl rfl ?_
      refine RunD.op (ok_ldP rfl (fun _ => rfl) rfl) rfl rfl ?_
      refine RunD.op (ok_move rfl (fun _ => rfl)) rfl rfl ?_
      first | refine RunD.op (ok_idxN rfl (fun _ => rfl) rfl (fun _ => rfl) rfl (fun _ => by omega)) rfl rfl ?_ | refine RunD.op (ok_idxP rfl (fun _ => rfl) rfl (fun _ => rfl) rfl (fun _ => by omega)) rfl rfl ?_
      refine RunD.op (ok_ldP rfl (fun _ => rfl) rfl) rfl rfl ?_
      refine RunD.op (ok_add rfl (fun _ => rfl) rfl (fun _ => rfl) (fun _ => by omega)) rfl rfl ?_
      refine RunD.z ?_
      first | refine TrL.op (ok_idxEN rfl (fun _ => rfl) rfl (fun _ => rfl) (fun _ => by omega)) rfl rfl ?_ | refine TrL.op (ok_idxE rfl (fun _ => rfl) rfl (fun _ => rfl) (fun _ => by omega)) rfl rfl ?_
      refine TrL.op (ok_ldE rfl (fun _ => rfl) rfl rfl rfl) rfl rfl ?_
      refine TrL.op (ok_addW rfl (fun _ => rfl) rfl (fun _ => rfl)) rfl rfl ?_
      first | refine TrL.op (ok_idxEN rfl (fun _ => rfl) rfl (fun _ => rfl) (fun _ => by omega)) rfl rfl ?_ | refine TrL.op (ok_idxE rfl (fun _ => rfl) rfl (fun _ => rfl) (fun _ => by omega)) rfl rfl ?_
      refine TrL.stE rfl rfl rfl rfl rfl ?_
      refine TrL.fin ?_
      refine End.nxt ?_
      refine Tr.seq ?_
      refine Tr.rg ?_
      refine TrL.op (ok_move rfl (fun _ => rfl)) rfl rfl ?_
      refine TrL.op (ok_move rfl (fun _ => rfl)) rfl rfl ?_
      refine TrL.op (ok_nilP rfl (fun _ => rfl)) rfl rfl ?_
      refine TrL.op (ok_fldP rfl (fun _ => rfl) rfl) rfl rfl ?_
      refine TrL.op (ok_ldP rfl (fun _ => rfl) rfl) rfl rfl ?_
      refine TrL.op (ok_move rfl (fun _ => rfl)) rfl rfl ?_
      first | refine TrL.op (ok_idxN rfl (fun _ => rfl) rfl (fun _ => rfl) rfl (fun _ => by omega)) rfl rfl ?_ | refine TrL.op (ok_idxP rfl (fun _ => rfl) rfl (fun _ => rfl) rfl (fun _ => by omega)) rfl rfl ?_
      refine TrL.op (ok_ldP rfl (fun _ => rfl) rfl) rfl rfl ?_
      first | refine TrL.op (ok_idxEN rfl (fun _ => rfl) rfl (fun _ => rfl) (fun _ => by omega)) rfl rfl ?_ | refine TrL.op (ok_idxE rfl (fun _ => rfl) rfl (fun _ => rfl) (fun _ => by omega)) rfl rfl ?_
      refine TrL.op (ok_ldE rfl (fun _ => rfl) rfl rfl rfl) rfl rfl ?_
      refine TrL.op (ok_subW rfl (fun _ => rfl) rfl (fun _ => rfl)) rfl rfl ?_
      first | refine TrL.op (ok_idxEN rfl (fun _ => rfl) rfl (fun _ => rfl) (fun _ => by omega)) rfl rfl ?_ | refine TrL.op (ok_idxE rfl (fun _ => rfl) rfl (fun _ => rfl) (fun _ => by omega)) rfl rfl ?_
      refine TrL.stE rfl rfl rfl rfl rfl ?_
      refine TrL.fin ?_
      refine End.nxt ?_
      refine Tr.seq ?_
      refine Tr.rg ?_
      refine TrL.op (ok_move rfl (fun _ => rfl)) rfl rfl ?_
      refine TrL.op (ok_move rfl (fun _ => rfl)) rfl rfl ?_
      refine TrL.op (ok_nilP rfl (fun _ => rfl)) rfl rfl ?_
      refine TrL.op (ok_fldP rfl (fun _ => rfl) rfl) rfl rfl ?_
      refine TrL.op (ok_ldP rfl (fun _ => rfl) rfl) rfl rfl ?_
      refine TrL.op (ok_move rfl (fun _ => rfl)) rfl rfl ?_
      refine TrL.op (ok_add rfl (fun _ => rfl) rfl (fun _ => rfl) (fun _ => by omega)) rfl rfl ?_
      first | refine TrL.op (ok_idxEN rfl (fun _ => rfl) rfl (fun _ => rfl) (fun _ => by omega)) rfl rfl ?_ | refine TrL.op (ok_idxE rfl (fun _ => rfl) rfl (fun _ => rfl) (fun _ => by omega)) rfl rfl ?_
      refine TrL.op (ok_ldE rfl (fun _ => rfl) rfl rfl rfl) rfl rfl ?_
      refine TrL.op (ok_subW rfl (fun _ => rfl) rfl (fun _ => rfl)) rfl rfl ?_
      first | refine TrL.op (ok_idxEN rfl (fun _ => rfl) rfl (fun _ => rfl) (fun _ => by omega)) rfl rfl ?_ | refine TrL.op (ok_idxE rfl (fun _ => rfl) rfl (fun _ => rfl) (fun _ => by omega)) rfl rfl ?_
      refine TrL.stE rfl rfl rfl rfl rfl ?_
      refine TrL.fin ?_
      refine End.nxt ?_
      refine Tr.seq ?_
      refine Tr.rg ?_
      refine TrL.op (ok_move rfl (fun _ => rfl)) rfl rfl ?_
      refine TrL.op (ok_assign rfl (fun _ => rfl)) rfl rfl ?_
      refine TrL.op (ok_assign rfl (fun _ => rfl)) rfl rfl ?_
      refine TrL.fin ?_
      refine End.nxt ?_
      refine Tr.frz 32 [4] ⟨rfl, trivial⟩ (by simp only [lenMax]; omega) rfl ?_
      refine Tr.ret ?_
      exact Rts.res (fn := Tryd.f23) (ts := [4, 5]) rfl rfl (.r rfl (by unfold sqE; rw [orE_r h2, if_pos (by rw [if_pos (by omega)])]; exact sqL_eq v (by omega) (by omega) (by rw [show ((2 : Int) * o.1.length).toNat = 2 * o.1.length by omega]) rfl rfl rfl rfl rfl rfl rfl rfl) <| .i rfl (by unfold sqE; rw [orE_r h2, if_pos (by omega)]) <| .nil)

end Go.Fl

/- Words that act on origamis and chains. Plain Lean, no program in sight. -/
namespace Go.Fl
open Go Go.RowKit
def thenL (p q : List Int) : List Int := tab p.length (fun i => nth q (nth p i).toNat)
theorem thenL_len {p q : List Int} : (thenL p q).length = p.length := tab_len
def letO (x : Int) (o : Ori) : Ori := if x = 84 then (o.1, thenL o.2 (invL o.1)) else if x = 116 then (o.1, thenL o.2 o.1) else if x = 83 then (invL o.2, o.1) else (o.2, invL o.1)
def bE (x : Int) (o : Ori) (i : Int) : Int := if x = 84 then nth (invL o.1) i.toNat else if x = 116 then nth o.1 i.toNat else if x = 83 then o.1.length + nth (invL o.2) i.toNat else o.1.length + i
def bS (x : Int) : Int := if x = 84 then 1 else if x = 116 then 1 else if x = 83 then 1 else -1
def lE (x : Int) (o : Ori) (i : Int) : Int := if x = 84 then o.1.length + nth (invL o.1) i.toNat else if x = 116 then o.1.length + nth o.1 i.toNat else if x = 83 then i else nth (invL o.1) i.toNat
def lS (x : Int) : Int := if x = 84 then 1 else if x = 116 then 1 else if x = 83 then -1 else 1
def lF (x : Int) (o : Ori) (i : Int) : Int := if x = 84 then nth (invL o.1) (nth o.2 (nth (invL o.1) i.toNat).toNat).toNat else if x = 116 then nth o.1 (nth o.2 i.toNat).toNat else if x = 83 then 0 else 0
def lT (x : Int) : Int := if x = 84 then 1 else if x = 116 then -1 else if x = 83 then 0 else 0
def letT (x : Int) (o : Ori) (c : List Int) (k : Nat) (j : Nat) : Int := sumTo (fun i => (if (j : Int) = bE x o i then bS x * nth c i else 0) + (if (j : Int) = lE x o i then lS x * nth c ((o.1.length : Int) + i).toNat else 0) + (if (j : Int) = lF x o i then lT x * nth c ((o.1.length : Int) + i).toNat else 0)) k
def letK (x : Int) (o : Ori) (c : List Int) (k : Nat) : List Int := tab (2 * o.1.length) (fun j => W (letT x o c k j))
def letC (x : Int) (o : Ori) (c : List Int) : List Int := letK x o c o.1.length
theorem letC_len {x : Int} {o : Ori} {c : List Int} : (letC x o c).length = 2 * o.1.length := tab_len
def pO : List Int → Ori → Ori
  | [], o => o
  | x :: r, o => letO x (pO r o)
def pC : List Int → Ori → List Int → List Int
  | [], _, c => c
  | x :: r, o, c => letC x (pO r o) (pC r o c)
theorem tab_addW {n : Nat} {F : Nat → Int} {i : Int} {x y : Int} (h0 : 0 ≤ i) (hi : i < n) (hx : x = W (nth (tab n (fun j => W (F j))) i.toNat + W y)) : (tab n (fun j => W (F j))).set i.toNat x = tab n (fun j => W (F j + if (j : Int) = i then y else 0)) := by
  rw [hx, tab_set]
  refine tab_congr fun j hj => ?_
  by_cases e : j = i.toNat
  · have e' : (j : Int) = i := by omega
    rw [if_pos e, if_pos e', nth_tab (by omega), W_add_l, W_add_r, ← e]
  · have e' : ¬ (j : Int) = i := by omega
    rw [if_neg e, if_neg e', Int.add_zero]
theorem bE_rng {o : Ori} (v : Valid o) {x i : Int} (h0 : 0 ≤ i) (h1 : i < o.1.length) : 0 ≤ bE x o i ∧ bE x o i < 2 * o.1.length := by
  have a := v.ri (i := i.toNat) (by omega); have b := invR v (i := i.toNat) (by omega); have c := invU v (i := i.toNat) (by omega)
  unfold bE; split
  · omega
  · split
    · omega
    · split <;> omega
theorem lE_rng {o : Ori} (v : Valid o) {x i : Int} (h0 : 0 ≤ i) (h1 : i < o.1.length) : 0 ≤ lE x o i ∧ lE x o i < 2 * o.1.length := by
  have a := v.ri (i := i.toNat) (by omega); have b := invR v (i := i.toNat) (by omega); have c := invU v (i := i.toNat) (by omega)
  unfold lE; split
  · omega
  · split
    · omega
    · split <;> omega
theorem lF_rng {o : Ori} (v : Valid o) {x i : Int} (h0 : 0 ≤ i) (h1 : i < o.1.length) : 0 ≤ lF x o i ∧ lF x o i < 2 * o.1.length := by
  have b := invR v (i := i.toNat) (by omega); have c := v.ui (i := i.toNat) (by omega); have d := v.ui (i := (nth (invL o.1) i.toNat).toNat) (by omega)
  have e := invR v (i := (nth o.2 (nth (invL o.1) i.toNat).toNat).toNat) (by omega); have f := v.ri (i := (nth o.2 i.toNat).toNat) (by omega)
  have := v.pos
  unfold lF; split
  · omega
  · split
    · omega
    · split <;> omega
theorem letK_zero {x : Int} {o : Ori} {c : List Int} : List.replicate (2 * o.1.length) 0 = letK x o c 0 := by rw [tab_rep]; rfl
theorem letK_succ {o : Ori} (v : Valid o) {x : Int} {c : List Int} {k : Nat} (hk : k < o.1.length) {E1 E2 E3 : List Int} {a b d : Int}
    (h1 : E1 = (letK x o c k).set (bE x o k).toNat a) (ha : a = W (nth (letK x o c k) (bE x o k).toNat + W (bS x * nth c k)))
    (h2 : E2 = E1.set (lE x o k).toNat b) (hb : b = W (nth E1 (lE x o k).toNat + W (lS x * nth c ((o.1.length : Int) + k).toNat)))
    (h3 : E3 = E2.set (lF x o k).toNat d) (hd : d = W (nth E2 (lF x o k).toNat + W (lT x * nth c ((o.1.length : Int) + k).toNat))) : E3 = letK x o c (k + 1) := by
  have r1 := bE_rng v (x := x) (i := k) (by omega) (by omega)
  have r2 := lE_rng v (x := x) (i := k) (by omega) (by omega)
  have r3 := lF_rng v (x := x) (i := k) (by omega) (by omega)
  have t1 := h1
  rw [letK, tab_addW r1.1 (by omega) ha] at t1
  subst t1
  have t2 := h2
  rw [tab_addW r2.1 (by omega) hb] at t2
  subst t2
  rw [h3, tab_addW r3.1 (by omega) hd, letK]
  refine tab_congr fun j hj => congrArg W ?_
  rw [letT, letT, sumTo_succ]; omega
/-! Inverses, compositions are permutations. -/
theorem nodup_nth {p : List Int} (h : p.Nodup) {i j : Nat} (hi : i < p.length) (hj : j < p.length) (e : nth p i = nth p j) : i = j := by
  have h1 := nth_get hi
  have h2 := nth_get hj
  rw [List.getElem?_eq_getElem hi] at h1
  rw [List.getElem?_eq_getElem hj] at h2
  have e1 := Option.some.inj h1
  have e2 := Option.some.inj h2
  rw [List.nodup_iff_pairwise_ne, List.pairwise_iff_getElem] at h
  rcases Nat.lt_trichotomy i j with hlt | heq | hgt
  · exact absurd (by rw [e1, e2, e]) (h i j hi hj hlt)
  · exact heq
  · exact absurd (by rw [e1, e2, e]) (h j i hj hi hgt)
theorem nodup_of_nth {p : List Int} (h : ∀ i j, i < p.length → j < p.length → nth p i = nth p j → i = j) : p.Nodup := by
  rw [List.nodup_iff_pairwise_ne, List.pairwise_iff_getElem]
  intro i j hi hj hij e
  have h1 := nth_get hi
  have h2 := nth_get hj
  rw [List.getElem?_eq_getElem hi] at h1
  rw [List.getElem?_eq_getElem hj] at h2
  have := h i j hi hj (by rw [← Option.some.inj h1, ← Option.some.inj h2]; exact e)
  omega
/-- Every number below n is in a permutation of n. -/
theorem perm_mem {p : List Int} {n : Nat} (hn : p.Nodup) (hr : inR p n) (hl : p.length = n) {x : Int} (h0 : 0 ≤ x) (h1 : x < n) : ∃ i, i < n ∧ nth p i = x := by
  by_cases hx : x ∈ p
  · obtain ⟨i, hi, rfl⟩ := List.getElem_of_mem hx
    have h2 := nth_get hi
    rw [List.getElem?_eq_getElem hi] at h2
    exact ⟨i, by omega, (Option.some.inj h2).symm⟩
  · exfalso
    have g : Good n p := ⟨hn, fun y hy => by
      obtain ⟨i, hi, rfl⟩ := List.getElem_of_mem hy
      have h2 := nth_get hi
      rw [List.getElem?_eq_getElem hi] at h2
      rw [Option.some.inj h2]; exact hr i hi⟩
    have := g.room h0 h1 hx
    omega
theorem setInv_at {p : List Int} {n : Nat} (hn : p.Nodup) (hr : inR p n) (hl : p.length = n) : ∀ {k : Nat}, k ≤ n → ∀ i, i < k → nth (setInv p k) (nth p i).toNat = i
  | 0, _, i, hi => by omega
  | k + 1, hk, i, hi => by
    have hp := hr i (by omega)
    have hq := hr k (by omega)
    rw [setInv_succ, nth_set (by rw [setInv_len]; omega)]
    by_cases e : i = k
    · subst e; rw [if_pos rfl]
    · rw [if_neg, setInv_at hn hr hl (by omega) i (by omega)]
      intro e2
      exact e (nodup_nth hn (by omega) (by omega) (by omega)).symm
theorem inv_at {p : List Int} {n : Nat} (hn : p.Nodup) (hr : inR p n) (hl : p.length = n) {i : Nat} (hi : i < n) : nth (invL p) (nth p i).toNat = i := by
  unfold invL; rw [hl]; exact setInv_at hn hr hl (Nat.le_refl _) i hi
theorem at_inv {p : List Int} {n : Nat} (hn : p.Nodup) (hr : inR p n) (hl : p.length = n) {x : Int} (h0 : 0 ≤ x) (h1 : x < n) : nth p (nth (invL p) x.toNat).toNat = x := by
  obtain ⟨i, hi, rfl⟩ := perm_mem hn hr hl h0 h1
  rw [inv_at hn hr hl hi]; simp
theorem invL_nodup {p : List Int} {n : Nat} (hn : p.Nodup) (hr : inR p n) (hl : p.length = n) : (invL p).Nodup := by
  refine nodup_of_nth fun i j hi hj e => ?_
  rw [invL_len] at hi hj
  have h1 := at_inv hn hr hl (x := i) (by omega) (by omega)
  have h2 := at_inv hn hr hl (x := j) (by omega) (by omega)
  simp only [Int.toNat_natCast] at h1 h2
  rw [e] at h1; omega
theorem thenL_rng {p q : List Int} {n : Nat} (hp : inR p n) (hq : inR q n) (hl : q.length = n) : inR (thenL p q) n := fun i hi => by
  rw [thenL_len] at hi
  have := hp i hi
  rw [thenL, nth_tab hi]
  exact hq _ (by omega)
theorem thenL_nodup {p q : List Int} {n : Nat} (hp : p.Nodup) (hr : inR p n) (hq : q.Nodup) (hl : q.length = n) : (thenL p q).Nodup := by
  refine nodup_of_nth fun i j hi hj e => ?_
  rw [thenL_len] at hi hj
  have h1 := hr i hi
  have h2 := hr j hj
  rw [thenL, nth_tab hi, nth_tab hj] at e
  have := nodup_nth hq (by omega) (by omega) e
  exact nodup_nth hp hi hj (by omega)
theorem Valid.iR {o : Ori} (v : Valid o) : inR (invL o.1) o.1.length := fun i hi => by rw [invL_len] at hi; exact invR v hi
theorem Valid.iU {o : Ori} (v : Valid o) : inR (invL o.2) o.1.length := fun i hi => by rw [invL_len, v.len] at hi; exact invU v hi
theorem letO_valid {o : Ori} (v : Valid o) (x : Int) : Valid (letO x o) ∧ (letO x o).1.length = o.1.length := by
  have h0 := v.pos; have h1 := v.len; have h2 := v.le; have h3 := invL_len o.1; have h4 := invL_len o.2
  have n1 := invL_nodup v.nR v.rR rfl
  have n2 := invL_nodup v.nU v.rU v.len
  unfold letO
  split
  · exact ⟨⟨by rw [thenL_len]; exact h1, h0, h2, v.rR, thenL_rng v.rU v.iR h3, v.nR, thenL_nodup v.nU v.rU n1 h3⟩, rfl⟩
  · split
    · exact ⟨⟨by rw [thenL_len]; exact h1, h0, h2, v.rR, thenL_rng v.rU v.rR rfl, v.nR, thenL_nodup v.nU v.rU v.nR rfl⟩, rfl⟩
    · split
      · have hl : (invL o.2).length = o.1.length := by omega
        exact ⟨⟨by simp only; omega, by simp only; omega, by simp only; omega, by simp only; rw [hl]; exact v.iU, by simp only; rw [hl]; exact v.rR, n2, v.nR⟩, hl⟩
      · exact ⟨⟨by simp only; omega, by simp only; omega, by simp only; omega, by simp only; rw [h1]; exact v.rU, by simp only; rw [h1]; exact v.iR, v.nU, n1⟩, h1⟩
theorem pO_valid {o : Ori} (v : Valid o) : ∀ r : List Int, Valid (pO r o) ∧ (pO r o).1.length = o.1.length
  | [] => ⟨v, rfl⟩
  | x :: r => by
    obtain ⟨h1, h2⟩ := pO_valid v r
    obtain ⟨h3, h4⟩ := letO_valid h1 x
    exact ⟨h3, h4.trans h2⟩
theorem pC_len {o : Ori} (v : Valid o) {c : List Int} (h : c.length = 2 * o.1.length) : ∀ r : List Int, (pC r o c).length = 2 * o.1.length
  | [] => h
  | x :: r => by rw [pC, letC_len, (pO_valid v r).2]
theorem pushL_eq {x : Int} {r : List Int} {o : Ori} {l : List (List Int)} : tab (l.map (pC r o)).length (fun q => letC x (pO r o) (nth (l.map (pC r o)) q)) = l.map (pC (x :: r) o) := by
  rw [map_tab (f := pC (x :: r) o), List.length_map]
  exact tab_congr fun i hi => by rw [nth_map hi]; rfl
theorem drop_cons {ws : List Int} {i : Nat} (h0 : 0 < i) (hi : i ≤ ws.length) : ws.drop (i - 1) = nth ws (i - 1) :: ws.drop i := by
  have hlt : i - 1 < ws.length := by omega
  rw [List.drop_eq_getElem_cons hlt, show i - 1 + 1 = i by omega]
  have h2 := nth_get hlt
  rw [List.getElem?_eq_getElem hlt] at h2
  rw [Option.some.inj h2]
def isLet (x : Int) : Bool := decide (x = 83 ∨ x = 84 ∨ x = 115 ∨ x = 116)
def chkW (ws : List Int) : Int := if 20 < ws.length then 8 else if ws.all isLet then 0 else 7
end Go.Fl

/- The references of chapters 6 and 8: places in lists, corners. Plain Lean, no program in sight. -/
namespace Go.Fl
open Go Go.RowKit
def atL (l : List Int) (x : Int) : Int := if x ∈ l then (l.idxOf x : Int) else -1
theorem idxOf_nth {l : List Int} : ∀ {k : Nat}, k < l.length → (∀ i, i < k → nth l i ≠ nth l k) → l.idxOf (nth l k) = k := by
  induction l with
  | nil => intro k hk; simp at hk
  | cons a r ih =>
    intro k hk h
    cases k with
    | zero => show List.idxOf a (a :: r) = 0; simp
    | succ k =>
      have h0 : a ≠ nth r k := h 0 (by omega)
      show List.idxOf (nth r k) (a :: r) = k + 1
      rw [List.idxOf_cons, show (a == nth r k) = false by simpa using h0, cond_false, ih (by simpa using hk) (fun i hi => h (i + 1) (by omega))]
theorem atL_at {l : List Int} {x : Int} {k : Nat} (hk : k < l.length) (h : ∀ i, i < k → nth l i ≠ x) (hx : nth l k = x) : (k : Int) = atL l x := by
  subst hx
  unfold atL
  rw [if_pos (nth_mem hk), idxOf_nth hk h]
theorem mem_nth {l : List Int} {x : Int} (h : x ∈ l) : ∃ i, i < l.length ∧ nth l i = x := by
  obtain ⟨i, hi, rfl⟩ := List.getElem_of_mem h
  have h2 := nth_get hi
  rw [List.getElem?_eq_getElem hi] at h2
  exact ⟨i, hi, (Option.some.inj h2).symm⟩
theorem atL_none {l : List Int} {x : Int} (h : ∀ i, i < l.length → nth l i ≠ x) : -1 = atL l x := by
  unfold atL
  rw [if_neg]
  intro hx
  obtain ⟨i, hi, he⟩ := mem_nth hx
  exact h i hi he
theorem atL_neg {l : List Int} {x : Int} : atL l x < 0 ↔ x ∉ l := by
  unfold atL
  by_cases h : x ∈ l
  · rw [if_pos h]; exact ⟨fun h1 => by omega, fun h1 => absurd h h1⟩
  · rw [if_neg h]; exact ⟨fun _ => h, fun _ => by omega⟩
theorem atL_rng {l : List Int} {x : Int} (h : x ∈ l) : 0 ≤ atL l x ∧ atL l x < l.length := by
  unfold atL
  rw [if_pos h]
  exact ⟨by omega, by exact_mod_cast List.idxOf_lt_length_of_mem h⟩
theorem nth_atL {l : List Int} {x : Int} (h : x ∈ l) : nth l (atL l x).toNat = x := by
  unfold atL
  rw [if_pos h]
  obtain ⟨i, hi, rfl⟩ := mem_nth h
  have hlt := List.idxOf_lt_length_of_mem h
  rw [Int.toNat_natCast, show nth l (List.idxOf (nth l i) l) = l[List.idxOf (nth l i) l] from nth_of_get? (List.getElem?_eq_getElem hlt)]
  exact List.getElem_idxOf hlt
def invA (l : List Int) : List Int := tab l.length (fun i : Nat => atL l i)
theorem invA_len {l : List Int} : (invA l).length = l.length := tab_len
theorem invA_eq {p : List Int} {n : Nat} (hn : p.Nodup) (hr : inR p n) (hl : p.length = n) : invA p = invL p := by
  have hi := invL_len p
  refine ext_nth (by rw [invA_len, hi]) fun i h => ?_
  rw [invA_len] at h
  obtain ⟨j, hj, hx⟩ := perm_mem hn hr hl (x := i) (by omega) (by omega)
  have h1 := inv_at hn hr hl hj
  rw [hx] at h1
  rw [invA, nth_tab h, ← atL_at (k := j) (by omega) (fun q hq e => ?_) hx]
  · simpa using h1.symm
  · have := nodup_nth hn (i := q) (j := j) (by omega) (by omega) (by rw [hx]; exact e); omega
theorem nodup_of_pairs {l : List Int} (h : ∀ i, i < l.length → ∀ k, k < i → nth l i ≠ nth l k) : l.Nodup :=
  nodup_of_nth fun i j hi hj e => by
    rcases Nat.lt_trichotomy i j with h1 | h1 | h1
    · exact absurd e.symm (h j hj i h1)
    · exact h1
    · exact absurd e (h i hi j h1)
theorem chkL_in {l : List Int} {n : Nat} (h : inR l n) (h2 : l.Nodup) : 0 = chkL l n := (chkL_zero.2 ⟨h, h2⟩).symm
theorem chkL_dup {l : List Int} {n i k : Nat} (h : inR l n) (hi : i < l.length) (hk : k < i) (e : nth l i = nth l k) : 3 = chkL l n := by
  unfold chkL
  rw [if_pos h, if_neg]
  intro hn
  have := nodup_nth hn hi (by omega) e
  omega
theorem chkL_out {l : List Int} {n i : Nat} (hi : i < l.length) (h : ¬ (0 ≤ nth l i ∧ nth l i < n)) : 2 = chkL l n := by
  unfold chkL
  rw [if_neg (fun hh => h (hh i hi))]
/-! ### Corners -/
theorem nth_setC {i : Int} {j : Nat} : ∀ {c V : List Int}, (∀ x ∈ c, 0 ≤ x) → j < V.length → nth (setC V c i) j = if (j : Int) ∈ c then i else nth V j
  | [], V, _, _ => by simp [setC]
  | x :: c, V, hc, hj => by
    show nth (setC (V.set x.toNat i) c i) j = _
    rw [nth_setC (fun y hy => hc y (List.mem_cons_of_mem _ hy)) (by rw [List.length_set]; exact hj), nth_set hj]
    have hx := hc x List.mem_cons_self
    by_cases h1 : (j : Int) ∈ c
    · rw [if_pos h1, if_pos (List.mem_cons_of_mem _ h1)]
    · rw [if_neg h1]
      by_cases h2 : x.toNat = j
      · rw [if_pos h2, if_pos (by rw [show (j : Int) = x by omega]; exact List.mem_cons_self)]
      · rw [if_neg h2, if_neg]
        intro h3
        rcases List.mem_cons.1 h3 with h3 | h3
        · omega
        · exact h1 h3
def cornTo (L : List (List Int)) (n : Nat) : Nat → List Int
  | 0 => List.replicate n (-1)
  | k + 1 => setC (cornTo L n k) (nth L k) k
theorem cornTo_len {L : List (List Int)} {n : Nat} : ∀ {k : Nat}, (cornTo L n k).length = n
  | 0 => by simp [cornTo]
  | k + 1 => by rw [cornTo, setC_len, cornTo_len]
theorem cornTo_app {L R : List (List Int)} {n : Nat} : ∀ {k : Nat}, k ≤ L.length → cornTo (L ++ R) n k = cornTo L n k
  | 0, _ => rfl
  | k + 1, h => by rw [cornTo, cornTo, cornTo_app (by omega), nth_app_l (by omega)]
theorem mem_take_succ {L : List (List Int)} {k : Nat} (hk : k < L.length) {x : Int} : x ∈ (L.take (k + 1)).flatten ↔ x ∈ (L.take k).flatten ∨ x ∈ nth L k := by
  rw [take_succ_nth hk, List.flatten_append, List.mem_append]; simp
theorem corn_vert {L : List (List Int)} {n : Nat} (hL : ∀ x ∈ L.flatten, 0 ≤ x) {j : Nat} (hj : j < n) : ∀ {k : Nat}, k ≤ L.length →
    (((j : Int) ∈ (L.take k).flatten → 0 ≤ nth (cornTo L n k) j ∧ nth (cornTo L n k) j < k ∧ nth (cornTo L n k) j = nth (vertTo L n k) j) ∧ ((j : Int) ∉ (L.take k).flatten → nth (cornTo L n k) j = -1))
  | 0, _ => ⟨fun h => by simp at h, fun _ => by rw [cornTo, nth_rep hj]⟩
  | k + 1, hk => by
    have ih := corn_vert hL hj (k := k) (by omega)
    have hrow : ∀ x ∈ nth L k, 0 ≤ x := fun x hx => hL x (List.mem_flatten.2 ⟨_, nth_mem (by omega), hx⟩)
    rw [cornTo, vertTo, nth_setC hrow (by rw [cornTo_len]; exact hj), nth_setC hrow (by rw [vertTo_len]; exact hj), mem_take_succ (by omega)]
    by_cases h : (j : Int) ∈ nth L k
    · rw [if_pos h, if_pos h]
      exact ⟨fun _ => ⟨by omega, by omega, rfl⟩, fun h' => absurd (.inr h) h'⟩
    · rw [if_neg h, if_neg h]
      refine ⟨fun h' => ?_, fun h' => ih.2 (fun h2 => h' (.inl h2))⟩
      obtain ⟨a, b, c⟩ := ih.1 (h'.resolve_right h)
      exact ⟨a, by omega, c⟩
theorem corn_neg {L : List (List Int)} {n : Nat} (hL : ∀ x ∈ L.flatten, 0 ≤ x) {x : Int} (h0 : 0 ≤ x) (h1 : x < n) : nth (cornTo L n L.length) x.toNat < 0 ↔ x ∉ L.flatten := by
  have := corn_vert hL (n := n) (j := x.toNat) (by omega) (Nat.le_refl _)
  rw [List.take_length, show ((x.toNat : Nat) : Int) = x by omega] at this
  by_cases h : x ∈ L.flatten
  · have := this.1 h; exact ⟨fun h' => by omega, fun h' => absurd h h'⟩
  · have := this.2 h; exact ⟨fun _ => h, fun _ => by omega⟩
theorem corn_neg' {L : List (List Int)} {n : Nat} {c : List Int} (hL : ∀ x ∈ L.flatten ++ c, 0 ≤ x) {x : Int} (h0 : 0 ≤ x) (h1 : x < n) : nth (setC (cornTo L n L.length) c L.length) x.toNat < 0 ↔ x ∉ L.flatten ++ c := by
  rw [nth_setC (fun y hy => hL y (List.mem_append.2 (.inr hy))) (by rw [cornTo_len]; omega), show ((x.toNat : Nat) : Int) = x by omega]
  by_cases h : x ∈ c
  · rw [if_pos h]; exact ⟨fun h' => by omega, fun h' => absurd (List.mem_append.2 (.inr h)) h'⟩
  · rw [if_neg h, corn_neg (fun y hy => hL y (List.mem_append.2 (.inl hy))) h0 h1, List.mem_append]
    exact ⟨fun h' h2 => h2.elim h' h, fun h' h2 => h' (.inl h2)⟩
theorem cycs_mem {p : List Int} (h : 0 < p.length) : ∀ {k : Nat} {i : Nat}, i < k → (i : Int) ∈ (cycs p k).flatten
  | k + 1, i, hi => by
    rw [cycs, addC_flat, List.mem_append]
    by_cases e : i = k
    · subst e
      by_cases hm : (i : Int) ∈ (cycs p i).flatten
      · exact .inl hm
      · refine .inr ?_
        obtain ⟨m, hm'⟩ : ∃ m, p.length = m + 1 := ⟨p.length - 1, by omega⟩
        rw [hm', walk_step hm]; exact List.mem_cons_self
    · exact .inl (cycs_mem h (by omega))
theorem vtx_all {o : Ori} (v : Valid o) {i : Nat} (h : i < o.1.length) : (i : Int) ∈ (vtx o).flatten := cycs_mem (by rw [comm_len]; exact v.pos) h
theorem vtx_good {o : Ori} (v : Valid o) : Good o.1.length (vtx o).flatten := by
  have := cycs_good (p := comm o) (by rw [comm_len]; exact comm_rng v) (k := o.1.length) (by rw [comm_len]; exact Nat.le_refl _)
  rwa [comm_len] at this
theorem corn_vertL {o : Ori} (v : Valid o) : cornTo (vtx o) o.1.length (vtx o).length = vertL o := by
  refine ext_nth (by rw [cornTo_len, vertL_len]) fun j hj => ?_
  rw [cornTo_len] at hj
  have := corn_vert (L := vtx o) (n := o.1.length) (fun x hx => ((vtx_good v).rng x hx).1) hj (Nat.le_refl _)
  rw [List.take_length] at this
  exact (this.1 (vtx_all v hj)).2.2
theorem comm_at {o : Ori} {x : Int} (h0 : 0 ≤ x) (h1 : x < o.1.length) : nth (comm o) x.toNat = nth o.2 (nth o.1 (nth (invL o.2) (nth (invL o.1) x.toNat).toNat).toNat).toNat := by
  unfold comm
  rw [nth_map (by simp; omega), nth_range (by omega)]; rfl
structure Land where
  N : Int
  right : List Int
  up : List Int
  left : List Int
  down : List Int
  corner : List Int
  corners : Int
def landOf (o : Ori) : Land := ⟨o.1.length, o.1, o.2, invL o.1, invL o.2, vertL o, (vtx o).length⟩
def turnF (o : Ori) (x : Int) : Int := nth o.2 (nth o.1 (nth (invL o.2) (nth (invL o.1) x.toNat).toNat).toNat).toNat
theorem turnF_rng {o : Ori} (v : Valid o) {x : Int} (h0 : 0 ≤ x) (h1 : x < o.1.length) : 0 ≤ turnF o x ∧ turnF o x < o.1.length := by
  have := comm_rng v x.toNat (by rw [comm_len]; omega)
  rwa [comm_at h0 h1] at this
theorem cycs_stop {p : List Int} {k : Nat} (h : (k : Int) ∈ (cycs p k).flatten) : cycs p (k + 1) = cycs p k := by rw [cycs, walk_stop h, addC_nil rfl]
theorem corn_step {p : List Int} {n k : Nat} {c : List Int} (hp : p.length = n) (hk : k < n) (hc : c = walk p p.length (cycs p k).flatten k) (hx : (k : Int) ∉ (cycs p k).flatten) :
    cycs p (k + 1) = cycs p k ++ [c] ∧ setC (cornTo (cycs p k) n (cycs p k).length) c (cycs p k).length = cornTo (cycs p (k + 1)) n (cycs p (k + 1)).length := by
  obtain ⟨m, hm⟩ : ∃ m, p.length = m + 1 := ⟨p.length - 1, by omega⟩
  have hne : c.length ≠ 0 := by rw [hc, hm, walk_step hx]; simp
  have h1 : cycs p (k + 1) = cycs p k ++ [c] := by rw [cycs, ← hc, addC_cons hne]
  refine ⟨h1, ?_⟩
  rw [h1, List.length_append, List.length_singleton, cornTo, cornTo_app (Nat.le_refl _), nth_app_r (Nat.le_refl _) (by simp)]
  simp [nth]
end Go.Fl

/- Contracts of the references of chapters 6 and 8, and of the base. -/
namespace Go.Fl
open Go Go.Proofs

def eLand : Enc Land := eC (fun v : Land => (v.N, v.right, v.up, v.left, v.down, v.corner, v.corners, ())) (eP eI (eP (eL eI) (eP (eL eI) (eP (eL eI) (eP (eL eI) (eP (eL eI) (eP eI eU)))))))
instance {v : Land} : CellsK (kRd eLand v) [kI (v.N), kRd (eL eI) (v.right), kRd (eL eI) (v.up), kRd (eL eI) (v.left), kRd (eL eI) (v.down), kRd (eL eI) (v.corner), kI (v.corners)] := inferInstanceAs (CellsK (kRd (eC (fun v : Land => (v.N, v.right, v.up, v.left, v.down, v.corner, v.corners, ())) (eP eI (eP (eL eI) (eP (eL eI) (eP (eL eI) (eP (eL eI) (eP (eL eI) (eP eI eU)))))))) v) _)
instance {v : Land} {tl : List Know} : EncCells eLand v tl (kI (v.N) :: kRd (eL eI) (v.right) :: kRd (eL eI) (v.up) :: kRd (eL eI) (v.left) :: kRd (eL eI) (v.down) :: kRd (eL eI) (v.corner) :: kI (v.corners) :: tl) := inferInstanceAs (EncCells (eC (fun v : Land => (v.N, v.right, v.up, v.left, v.down, v.corner, v.corners, ())) (eP eI (eP (eL eI) (eP (eL eI) (eP (eL eI) (eP (eL eI) (eP (eL eI) (eP eI eU)))))))) v tl _)
instance {v : Land} : Norm eLand v (kRd eLand v) := ⟨fun h => h⟩
instance {v : Land} : FieldP eLand v 0 eI (v.N) 0 := inferInstanceAs (FieldP (eC (fun v : Land => (v.N, v.right, v.up, v.left, v.down, v.corner, v.corners, ())) (eP eI (eP (eL eI) (eP (eL eI) (eP (eL eI) (eP (eL eI) (eP (eL eI) (eP eI eU)))))))) v 0 _ _ _)
instance {v : Land} : FieldP eLand v 1 (eL eI) (v.right) 1 := inferInstanceAs (FieldP (eC (fun v : Land => (v.N, v.right, v.up, v.left, v.down, v.corner, v.corners, ())) (eP eI (eP (eL eI) (eP (eL eI) (eP (eL eI) (eP (eL eI) (eP (eL eI) (eP eI eU)))))))) v 1 _ _ _)
instance {v : Land} : FieldP eLand v 2 (eL eI) (v.up) 2 := inferInstanceAs (FieldP (eC (fun v : Land => (v.N, v.right, v.up, v.left, v.down, v.corner, v.corners, ())) (eP eI (eP (eL eI) (eP (eL eI) (eP (eL eI) (eP (eL eI) (eP (eL eI) (eP eI eU)))))))) v 2 _ _ _)
instance {v : Land} : FieldP eLand v 3 (eL eI) (v.left) 3 := inferInstanceAs (FieldP (eC (fun v : Land => (v.N, v.right, v.up, v.left, v.down, v.corner, v.corners, ())) (eP eI (eP (eL eI) (eP (eL eI) (eP (eL eI) (eP (eL eI) (eP (eL eI) (eP eI eU)))))))) v 3 _ _ _)
instance {v : Land} : FieldP eLand v 4 (eL eI) (v.down) 4 := inferInstanceAs (FieldP (eC (fun v : Land => (v.N, v.right, v.up, v.left, v.down, v.corner, v.corners, ())) (eP eI (eP (eL eI) (eP (eL eI) (eP (eL eI) (eP (eL eI) (eP (eL eI) (eP eI eU)))))))) v 4 _ _ _)
instance {v : Land} : FieldP eLand v 5 (eL eI) (v.corner) 5 := inferInstanceAs (FieldP (eC (fun v : Land => (v.N, v.right, v.up, v.left, v.down, v.corner, v.corners, ())) (eP eI (eP (eL eI) (eP (eL eI) (eP (eL eI) (eP (eL eI) (eP (eL eI) (eP eI eU)))))))) v 5 _ _ _)
instance {v : Land} : FieldP eLand v 6 eI (v.corners) 6 := inferInstanceAs (FieldP (eC (fun v : Land => (v.N, v.right, v.up, v.left, v.down, v.corner, v.corners, ())) (eP eI (eP (eL eI) (eP (eL eI) (eP (eL eI) (eP (eL eI) (eP (eL eI) (eP eI eU)))))))) v 6 _ _ _)
instance {ks r : List Know} {n m : Int} {a b c d e : List Int} [h : RdOf ks (eP eI (eP (eL eI) (eP (eL eI) (eP (eL eI) (eP (eL eI) (eP (eL eI) (eP eI eU))))))) (n, a, b, c, d, e, m, ()) r] : RdOf ks eLand (⟨n, a, b, c, d, e, m⟩) r := ⟨fun h' => h.imp h'⟩
instance {o : Ori} : FieldP eLand (landOf o) 0 eI (o.1.length) 0 := inferInstanceAs (FieldP eLand (landOf o) 0 eI ((landOf o).N) _)
instance {o : Ori} : FieldP eLand (landOf o) 1 (eL eI) (o.1) 1 := inferInstanceAs (FieldP eLand (landOf o) 1 (eL eI) ((landOf o).right) _)
instance {o : Ori} : FieldP eLand (landOf o) 2 (eL eI) (o.2) 2 := inferInstanceAs (FieldP eLand (landOf o) 2 (eL eI) ((landOf o).up) _)
instance {o : Ori} : FieldP eLand (landOf o) 3 (eL eI) (invL o.1) 3 := inferInstanceAs (FieldP eLand (landOf o) 3 (eL eI) ((landOf o).left) _)
instance {o : Ori} : FieldP eLand (landOf o) 4 (eL eI) (invL o.2) 4 := inferInstanceAs (FieldP eLand (landOf o) 4 (eL eI) ((landOf o).down) _)
instance {o : Ori} : FieldP eLand (landOf o) 5 (eL eI) (vertL o) 5 := inferInstanceAs (FieldP eLand (landOf o) 5 (eL eI) ((landOf o).corner) _)
instance {o : Ori} : FieldP eLand (landOf o) 6 eI ((vtx o).length) 6 := inferInstanceAs (FieldP eLand (landOf o) 6 eI ((landOf o).corners) _)
instance {o : Ori} : CellsK (kRd eLand (landOf o)) [kI (o.1.length), kRd (eL eI) (o.1), kRd (eL eI) (o.2), kRd (eL eI) (invL o.1), kRd (eL eI) (invL o.2), kRd (eL eI) (vertL o), kI ((vtx o).length)] := inferInstanceAs (CellsK (kRd eLand (landOf o)) [kI ((landOf o).N), kRd (eL eI) ((landOf o).right), kRd (eL eI) ((landOf o).up), kRd (eL eI) ((landOf o).left), kRd (eL eI) ((landOf o).down), kRd (eL eI) ((landOf o).corner), kI ((landOf o).corners)])
instance {o : Ori} {tl : List Know} : EncCells eLand (landOf o) tl (kI (o.1.length) :: kRd (eL eI) (o.1) :: kRd (eL eI) (o.2) :: kRd (eL eI) (invL o.1) :: kRd (eL eI) (invL o.2) :: kRd (eL eI) (vertL o) :: kI ((vtx o).length) :: tl) := inferInstanceAs (EncCells eLand (landOf o) tl (kI ((landOf o).N) :: kRd (eL eI) ((landOf o).right) :: kRd (eL eI) ((landOf o).up) :: kRd (eL eI) ((landOf o).left) :: kRd (eL eI) ((landOf o).down) :: kRd (eL eI) ((landOf o).corner) :: kI ((landOf o).corners) :: tl))
def eTurn : Enc Ori := eC (fun v : Ori => ((v.1.length : Int), v.1, v.2, invL v.1, invL v.2, (), (), ())) (eP eI (eP (eL eI) (eP (eL eI) (eP (eL eI) (eP (eL eI) (eP eAny (eP eAny eU)))))))
instance {v : Ori} : CellsK (kRd eTurn v) [kI ((v.1.length : Int)), kRd (eL eI) (v.1), kRd (eL eI) (v.2), kRd (eL eI) (invL v.1), kRd (eL eI) (invL v.2), kAny1, kAny1] := inferInstanceAs (CellsK (kRd (eC (fun v : Ori => ((v.1.length : Int), v.1, v.2, invL v.1, invL v.2, (), (), ())) (eP eI (eP (eL eI) (eP (eL eI) (eP (eL eI) (eP (eL eI) (eP eAny (eP eAny eU)))))))) v) _)
instance {v : Ori} {tl : List Know} : EncCells eTurn v tl (kI ((v.1.length : Int)) :: kRd (eL eI) (v.1) :: kRd (eL eI) (v.2) :: kRd (eL eI) (invL v.1) :: kRd (eL eI) (invL v.2) :: kAny1 :: kAny1 :: tl) := inferInstanceAs (EncCells (eC (fun v : Ori => ((v.1.length : Int), v.1, v.2, invL v.1, invL v.2, (), (), ())) (eP eI (eP (eL eI) (eP (eL eI) (eP (eL eI) (eP (eL eI) (eP eAny (eP eAny eU)))))))) v tl _)
instance {v : Ori} : Norm eTurn v (kRd eTurn v) := ⟨fun h => h⟩
instance {v : Ori} : FieldP eTurn v 0 eI ((v.1.length : Int)) 0 := inferInstanceAs (FieldP (eC (fun v : Ori => ((v.1.length : Int), v.1, v.2, invL v.1, invL v.2, (), (), ())) (eP eI (eP (eL eI) (eP (eL eI) (eP (eL eI) (eP (eL eI) (eP eAny (eP eAny eU)))))))) v 0 _ _ _)
instance {v : Ori} : FieldP eTurn v 1 (eL eI) (v.1) 1 := inferInstanceAs (FieldP (eC (fun v : Ori => ((v.1.length : Int), v.1, v.2, invL v.1, invL v.2, (), (), ())) (eP eI (eP (eL eI) (eP (eL eI) (eP (eL eI) (eP (eL eI) (eP eAny (eP eAny eU)))))))) v 1 _ _ _)
instance {v : Ori} : FieldP eTurn v 2 (eL eI) (v.2) 2 := inferInstanceAs (FieldP (eC (fun v : Ori => ((v.1.length : Int), v.1, v.2, invL v.1, invL v.2, (), (), ())) (eP eI (eP (eL eI) (eP (eL eI) (eP (eL eI) (eP (eL eI) (eP eAny (eP eAny eU)))))))) v 2 _ _ _)
instance {v : Ori} : FieldP eTurn v 3 (eL eI) (invL v.1) 3 := inferInstanceAs (FieldP (eC (fun v : Ori => ((v.1.length : Int), v.1, v.2, invL v.1, invL v.2, (), (), ())) (eP eI (eP (eL eI) (eP (eL eI) (eP (eL eI) (eP (eL eI) (eP eAny (eP eAny eU)))))))) v 3 _ _ _)
instance {v : Ori} : FieldP eTurn v 4 (eL eI) (invL v.2) 4 := inferInstanceAs (FieldP (eC (fun v : Ori => ((v.1.length : Int), v.1, v.2, invL v.1, invL v.2, (), (), ())) (eP eI (eP (eL eI) (eP (eL eI) (eP (eL eI) (eP (eL eI) (eP eAny (eP eAny eU)))))))) v 4 _ _ _)
instance {v : Ori} : FieldP eTurn v 5 eAny (()) 5 := inferInstanceAs (FieldP (eC (fun v : Ori => ((v.1.length : Int), v.1, v.2, invL v.1, invL v.2, (), (), ())) (eP eI (eP (eL eI) (eP (eL eI) (eP (eL eI) (eP (eL eI) (eP eAny (eP eAny eU)))))))) v 5 _ _ _)
instance {v : Ori} : FieldP eTurn v 6 eAny (()) 6 := inferInstanceAs (FieldP (eC (fun v : Ori => ((v.1.length : Int), v.1, v.2, invL v.1, invL v.2, (), (), ())) (eP eI (eP (eL eI) (eP (eL eI) (eP (eL eI) (eP (eL eI) (eP eAny (eP eAny eU)))))))) v 6 _ _ _)
instance {ks r : List Know} {a b : List Int} [h : RdOf ks (eP eI (eP (eL eI) (eP (eL eI) (eP (eL eI) (eP (eL eI) (eP eAny (eP eAny eU))))))) ((a.length : Int), a, b, invL a, invL b, (), (), ()) r] : RdOf ks eTurn ((a, b)) r := ⟨fun h' => h.imp h'⟩
theorem landOf_eq {o : Ori} (v : Valid o) : (Land.mk (o.1.length : Int) o.1 o.2 (invL o.1) (invL o.2) (cornTo (cycs (comm o) o.1.length) o.1.length (cycs (comm o) o.1.length).length) ((cycs (comm o) o.1.length).length : Int)) = landOf o := by
  have := corn_vertL v
  unfold vtx at this
  rw [this]; rfl

theorem outC_within {x : Int} : outC x = !(decide (-1000000 ≤ x ∧ x ≤ 1000000)) := by
  unfold outC
  by_cases h : x < -1000000 ∨ 1000000 < x
  · rw [decide_eq_true h, decide_eq_false (by omega)]; rfl
  · rw [decide_eq_false h, decide_eq_true (by omega)]; rfl
theorem any_at {α : Type} [Inhabited α] {q : α → Bool} {xs : List α} {i : Nat} (h : i < xs.length) (hq : q (nth xs i) = true) : xs.any q = true := List.any_eq_true.2 ⟨_, nth_mem h, hq⟩

set_option maxRecDepth 100000 in
theorem ct_Ints (a b : List Int) : Ct Tryd.prog 21 [kRd (eL eI) a, kRd (eL eI) b] (kB (decide (a = b))) := by
  refine Ct.mk Tryd.func21 rfl Tryd.ntmps21 rfl (fun w J => ?_)
  refine Tr.fact (s := 0) rfl (fun _ _ h => lenB h) (fun hb => ?_)
  refine Tr.seq ?_
  refine Tr.rg ?_
  refine TrL.op (ok_assign rfl (fun _ => rfl)) rfl rfl ?_
  refine TrL.fin ?_
  refine End.nxt ?_
  refine Tr.seq ?_
  refine Tr.seq ?_
  refine Tr.rg ?_
  refine TrL.op (ok_move rfl (fun _ => rfl)) rfl rfl ?_
  refine TrL.op (ok_lenJ rfl (fun _ => rfl)) rfl rfl ?_
  refine TrL.op (ok_move rfl (fun _ => rfl)) rfl rfl ?_
  refine TrL.op (ok_lenJ rfl (fun _ => rfl)) rfl rfl ?_
  refine TrL.op (ok_neq rfl (fun _ => rfl) rfl (fun _ => rfl)) rfl rfl ?_
  refine TrL.fin ?_
  refine End.nxt ?_
  refine Tr.cnd rfl ?_ ?_
  · intro h1
    replace h1 := of_decide_eq_true h1
    refine Tr.seq ?_
    refine Tr.rg ?_
    refine TrL.op (ok_assign rfl (fun _ => rfl)) rfl rfl ?_
    refine TrL.fin ?_
    refine End.nxt ?_
    refine Tr.ret ?_
    refine Rts.thn ?_
    exact Rts.res1 (fn := Tryd.f21) rfl (.b rfl (by symm; rw [decide_eq_false_iff_not]; intro e; exact h1 (by rw [e])) <| .nil)
  · intro h1
    replace h1 := Classical.not_not.1 (of_decide_eq_false h1)
    refine Tr.skip ?_
    refine End.nxt ?_
    refine Tr.seq ?_
    refine Tr.seq ?_
    refine Tr.rg ?_
    refine TrL.op (ok_assign rfl (fun _ => rfl)) rfl rfl ?_
    refine TrL.fin ?_
    refine End.nxt ?_
    refine Tr.for1 (σ := Nat) [⟨0, true, _, _⟩, ⟨1, true, _, _⟩] [] (fun k => [⟨5, true, [], kI (k : Int)⟩]) (fun k => []) (fun k => k ≤ a.length ∧ ∀ i, i < k → nth a i = nth b i) (fun k => a = b) (fun k => a.length - k) (0) ⟨Nat.zero_le _, fun i h => absurd h (by omega)⟩ (Ent.mk (.i rfl (by first | rfl | omega | (simp; done) | (simp; omega) | assumption) <| .k rfl rfl <| .k rfl rfl <| .nil) (.nil) rfl) ?_ ?_
    · rintro k ⟨hk0, hR0⟩
      refine Tr.norm (S' := [⟨5, true, _, _⟩, ⟨0, true, _, _⟩, ⟨1, true, _, _⟩]) (M' := []) rfl rfl ?_
      refine Tr.seq ?_
      refine Tr.seq ?_
      refine Tr.rg ?_
      refine TrL.op (ok_move rfl (fun _ => rfl)) rfl rfl ?_
      refine TrL.op (ok_move rfl (fun _ => rfl)) rfl rfl ?_
      refine TrL.op (ok_lenJ rfl (fun _ => rfl)) rfl rfl ?_
      refine TrL.op (ok_lss rfl (fun _ => rfl) rfl (fun _ => rfl)) rfl rfl ?_
      refine TrL.fin ?_
      refine End.nxt ?_
      refine Tr.cnd rfl ?_ ?_
      · intro h4
        replace h4 := of_decide_eq_true h4
        refine Tr.skip ?_
        refine End.nxt ?_
        refine Tr.seq ?_
        refine Tr.blk ?_
        refine Tr.seq ?_
        refine Tr.draw 8 mixed (by kernel_rfl) ?_
        refine RunD.op (ok_move rfl (fun _ => rfl)) rfl rfl ?_
        refine RunD.op (ok_move rfl (fun _ => rfl)) rfl rfl ?_
        first | refine RunD.op (ok_idxN rfl (fun _ => rfl) rfl (fun _ => rfl) rfl (fun _ => by omega)) rfl rfl ?_ | refine RunD.op (ok_idxP rfl (fun _ => rfl) rfl (fun _ => rfl) rfl (fun _ => by omega)) rfl rfl ?_
        refine RunD.op (ok_ldP rfl (fun _ => rfl) rfl) rfl rfl ?_
        refine RunD.op (ok_move rfl (fun _ => rfl)) rfl rfl ?_
        refine RunD.op (ok_move rfl (fun _ => rfl)) rfl rfl ?_
        first | refine RunD.op (ok_idxN rfl (fun _ => rfl) rfl (fun _ => rfl) rfl (fun _ => by omega)) rfl rfl ?_ | refine RunD.op (ok_idxP rfl (fun _ => rfl) rfl (fun _ => rfl) rfl (fun _ => by omega)) rfl rfl ?_
        refine RunD.op (ok_ldP rfl (fun _ => rfl) rfl) rfl rfl ?_
        refine RunD.z ?_
        refine TrL.op (ok_neq rfl (fun _ => rfl) rfl (fun _ => rfl)) rfl rfl ?_
        refine TrL.fin ?_
        refine End.nxt ?_
        refine Tr.cnd rfl ?_ ?_
        · intro h6
          replace h6 := of_decide_eq_true h6
          refine Tr.seq ?_
          refine Tr.rg ?_
          refine TrL.op (ok_assign rfl (fun _ => rfl)) rfl rfl ?_
          refine TrL.fin ?_
          refine End.nxt ?_
          refine Tr.ret ?_
          refine Rts.out ?_
          refine Rts.thn ?_
          refine Rts.thn ?_
          refine Rts.out ?_
          refine Rts.thn ?_
          refine Rts.thn ?_
          exact Rts.res1 (fn := Tryd.f21) rfl (.b rfl (by symm; rw [decide_eq_false_iff_not]; intro e; exact h6 (by rw [e])) <| .nil)
        · intro h6
          replace h6 := Classical.not_not.1 (of_decide_eq_false h6)
          refine Tr.skip ?_
          refine End.blk ?_
          refine End.nxt ?_
          refine Tr.rg ?_
          refine TrL.op (ok_move rfl (fun _ => rfl)) rfl rfl ?_
          refine TrL.op (ok_add rfl (fun _ => rfl) rfl (fun _ => rfl) (fun _ => by omega)) rfl rfl ?_
          refine TrL.op (ok_assign rfl (fun _ => rfl)) rfl rfl ?_
          refine TrL.fin ?_
          exact End.lp (k + 1) ⟨by omega, all_succ hR0 h6⟩ (by omega) (Ent.mk (.i rfl (by first | rfl | omega | (simp; done) | (simp; omega) | assumption) <| .k rfl rfl <| .k rfl rfl <| .nil) (.nil) rfl)
      · intro h4
        replace h4 := Int.not_lt.1 (of_decide_eq_false h4)
        refine Tr.exit ?_
        refine Exs.thn ?_
        refine Exs.thn ?_
        refine Exs.here ?_
        exact End.cut (k) (ext_nth (by omega) (fun i hi => hR0 i (by omega))) (Ent.mk (.i rfl (by first | rfl | omega | (simp; done) | (simp; omega) | assumption) <| .k rfl rfl <| .k rfl rfl <| .nil) (.nil) rfl)
    · intro k hE0
      refine End.norm (S' := [⟨5, true, _, _⟩, ⟨0, true, _, _⟩, ⟨1, true, _, _⟩]) (M' := []) rfl rfl ?_
      refine End.nxt ?_
      refine Tr.seq ?_
      refine Tr.rg ?_
      refine TrL.op (ok_assign rfl (fun _ => rfl)) rfl rfl ?_
      refine TrL.fin ?_
      refine End.nxt ?_
      refine Tr.ret ?_
      exact Rts.res1 (fn := Tryd.f21) rfl (.b rfl (by symm; rw [decide_eq_true_eq]; exact hE0) <| .nil)

set_option maxRecDepth 100000 in
theorem ct_Lists (a b : List (List Int)) : Ct Tryd.prog 33 [kRd (eL (eL eI)) a, kRd (eL (eL eI)) b] (kB (decide (a = b))) := by
  refine Ct.mk Tryd.func33 rfl Tryd.ntmps33 rfl (fun w J => ?_)
  refine Tr.fact (s := 0) rfl (fun _ _ h => lenB h) (fun hb => ?_)
  refine Tr.seq ?_
  refine Tr.rg ?_
  refine TrL.op (ok_assign rfl (fun _ => rfl)) rfl rfl ?_
  refine TrL.fin ?_
  refine End.nxt ?_
  refine Tr.seq ?_
  refine Tr.seq ?_
  refine Tr.rg ?_
  refine TrL.op (ok_move rfl (fun _ => rfl)) rfl rfl ?_
  refine TrL.op (ok_lenJ rfl (fun _ => rfl)) rfl rfl ?_
  refine TrL.op (ok_move rfl (fun _ => rfl)) rfl rfl ?_
  refine TrL.op (ok_lenJ rfl (fun _ => rfl)) rfl rfl ?_
  refine TrL.op (ok_neq rfl (fun _ => rfl) rfl (fun _ => rfl)) rfl rfl ?_
  refine TrL.fin ?_
  refine End.nxt ?_
  refine Tr.cnd rfl ?_ ?_
  · intro h1
    replace h1 := of_decide_eq_true h1
    refine Tr.seq ?_
    refine Tr.rg ?_
    refine TrL.op (ok_assign rfl (fun _ => rfl)) rfl rfl ?_
    refine TrL.fin ?_
    refine End.nxt ?_
    refine Tr.ret ?_
    refine Rts.thn ?_
    exact Rts.res1 (fn := Tryd.f33) rfl (.b rfl (by symm; rw [decide_eq_false_iff_not]; intro e; exact h1 (by rw [e])) <| .nil)
  · intro h1
    replace h1 := Classical.not_not.1 (of_decide_eq_false h1)
    refine Tr.skip ?_
    refine End.nxt ?_
    refine Tr.seq ?_
    refine Tr.seq ?_
    refine Tr.rg ?_
    refine TrL.op (ok_assign rfl (fun _ => rfl)) rfl rfl ?_
    refine TrL.fin ?_
    refine End.nxt ?_
    refine Tr.for1 (σ := Nat) [⟨0, true, _, _⟩, ⟨1, true, _, _⟩] [] (fun k => [⟨5, true, [], kI (k : Int)⟩]) (fun k => []) (fun k => k ≤ a.length ∧ ∀ i, i < k → nth a i = nth b i) (fun k => a = b) (fun k => a.length - k) (0) ⟨Nat.zero_le _, fun i h => absurd h (by omega)⟩ (Ent.mk (.i rfl (by first | rfl | omega | (simp; done) | (simp; omega) | assumption) <| .k rfl rfl <| .k rfl rfl <| .nil) (.nil) rfl) ?_ ?_
    · rintro k ⟨hk0, hR0⟩
      refine Tr.norm (S' := [⟨5, true, _, _⟩, ⟨0, true, _, _⟩, ⟨1, true, _, _⟩]) (M' := []) rfl rfl ?_
      refine Tr.seq ?_
      refine Tr.seq ?_
      refine Tr.rg ?_
      refine TrL.op (ok_move rfl (fun _ => rfl)) rfl rfl ?_
      refine TrL.op (ok_move rfl (fun _ => rfl)) rfl rfl ?_
      refine TrL.op (ok_lenJ rfl (fun _ => rfl)) rfl rfl ?_
      refine TrL.op (ok_lss rfl (fun _ => rfl) rfl (fun _ => rfl)) rfl rfl ?_
      refine TrL.fin ?_
      refine End.nxt ?_
      refine Tr.cnd rfl ?_ ?_
      · intro h4
        replace h4 := of_decide_eq_true h4
        refine Tr.skip ?_
        refine End.nxt ?_
        refine Tr.seq ?_
        refine Tr.blk ?_
        refine Tr.seq ?_
        refine Tr.draw 8 mixed (by kernel_rfl) ?_
        refine RunD.op (ok_move rfl (fun _ => rfl)) rfl rfl ?_
        refine RunD.op (ok_move rfl (fun _ => rfl)) rfl rfl ?_
        first | refine RunD.op (ok_idxN rfl (fun _ => rfl) rfl (fun _ => rfl) rfl (fun _ => by omega)) rfl rfl ?_ | refine RunD.op (ok_idxP rfl (fun _ => rfl) rfl (fun _ => rfl) rfl (fun _ => by omega)) rfl rfl ?_
        refine RunD.op (ok_ldP rfl (fun _ => rfl) rfl) rfl rfl ?_
        refine RunD.op (ok_move rfl (fun _ => rfl)) rfl rfl ?_
        refine RunD.op (ok_move rfl (fun _ => rfl)) rfl rfl ?_
        first | refine RunD.op (ok_idxN rfl (fun _ => rfl) rfl (fun _ => rfl) rfl (fun _ => by omega)) rfl rfl ?_ | refine RunD.op (ok_idxP rfl (fun _ => rfl) rfl (fun _ => rfl) rfl (fun _ => by omega)) rfl rfl ?_
        refine RunD.op (ok_ldP rfl (fun _ => rfl) rfl) rfl rfl ?_
        refine RunD.z ?_
        refine TrL.op (ok_call (fun hp => ct_Ints _ _) (.a rfl (fun _ => rfl) <| .a rfl (fun _ => rfl) <| .nil)) rfl rfl ?_
        refine TrL.op (ok_not rfl (fun _ => rfl)) rfl rfl ?_
        refine TrL.fin ?_
        refine End.nxt ?_
        refine Tr.cnd rfl ?_ ?_
        · intro h6
          try simp only [decide_eq_false_iff_not, Bool.not_eq_true'] at h6
          refine Tr.seq ?_
          refine Tr.rg ?_
          refine TrL.op (ok_assign rfl (fun _ => rfl)) rfl rfl ?_
          refine TrL.fin ?_
          refine End.nxt ?_
          refine Tr.ret ?_
          refine Rts.out ?_
          refine Rts.thn ?_
          refine Rts.thn ?_
          refine Rts.out ?_
          refine Rts.thn ?_
          refine Rts.thn ?_
          exact Rts.res1 (fn := Tryd.f33) rfl (.b rfl (by symm; rw [decide_eq_false_iff_not]; intro e; exact h6 (by rw [e])) <| .nil)
        · intro h6
          try simp only [decide_eq_true_eq, Bool.not_eq_false'] at h6
          refine Tr.skip ?_
          refine End.blk ?_
          refine End.nxt ?_
          refine Tr.rg ?_
          refine TrL.op (ok_move rfl (fun _ => rfl)) rfl rfl ?_
          refine TrL.op (ok_add rfl (fun _ => rfl) rfl (fun _ => rfl) (fun _ => by omega)) rfl rfl ?_
          refine TrL.op (ok_assign rfl (fun _ => rfl)) rfl rfl ?_
          refine TrL.fin ?_
          exact End.lp (k + 1) ⟨by omega, all_succ hR0 h6⟩ (by omega) (Ent.mk (.i rfl (by first | rfl | omega | (simp; done) | (simp; omega) | assumption) <| .k rfl rfl <| .k rfl rfl <| .nil) (.nil) rfl)
      · intro h4
        replace h4 := Int.not_lt.1 (of_decide_eq_false h4)
        refine Tr.exit ?_
        refine Exs.thn ?_
        refine Exs.thn ?_
        refine Exs.here ?_
        exact End.cut (k) (ext_nth (by omega) (fun i hi => hR0 i (by omega))) (Ent.mk (.i rfl (by first | rfl | omega | (simp; done) | (simp; omega) | assumption) <| .k rfl rfl <| .k rfl rfl <| .nil) (.nil) rfl)
    · intro k hE0
      refine End.norm (S' := [⟨5, true, _, _⟩, ⟨0, true, _, _⟩, ⟨1, true, _, _⟩]) (M' := []) rfl rfl ?_
      refine End.nxt ?_
      refine Tr.seq ?_
      refine Tr.rg ?_
      refine TrL.op (ok_assign rfl (fun _ => rfl)) rfl rfl ?_
      refine TrL.fin ?_
      refine End.nxt ?_
      refine Tr.ret ?_
      exact Rts.res1 (fn := Tryd.f33) rfl (.b rfl (by symm; rw [decide_eq_true_eq]; exact hE0) <| .nil)

set_option maxRecDepth 100000 in
theorem ct_SameO (a b : Ori) : Ct Tryd.prog 20 [kRd eO a, kRd eO b] (kB (decide (a = b))) := by
  refine Ct.mk Tryd.func20 rfl Tryd.ntmps20 rfl (fun w J => ?_)
  refine Tr.seq ?_
  refine Tr.rg ?_
  refine TrL.new (ok_box 2 rfl (fun _ => rfl) rfl) rfl rfl rfl rfl ?_
  refine TrL.new (ok_box 3 rfl (fun _ => rfl) rfl) rfl rfl rfl rfl ?_
  refine TrL.op (ok_assign rfl (fun _ => rfl)) rfl rfl ?_
  refine TrL.fin ?_
  refine End.nxt ?_
  refine Tr.seq ?_
  refine Tr.rg ?_
  refine TrL.op (ok_fldO rfl (fun _ => rfl)) rfl rfl ?_
  refine TrL.op (ok_ldB rfl (fun _ => rfl) rfl) rfl rfl ?_
  refine TrL.op (ok_fldO rfl (fun _ => rfl)) rfl rfl ?_
  refine TrL.op (ok_ldB rfl (fun _ => rfl) rfl) rfl rfl ?_
  refine TrL.op (ok_call (fun hp => ct_Ints _ _) (.a rfl (fun _ => rfl) <| .a rfl (fun _ => rfl) <| .nil)) rfl rfl ?_
  refine TrL.op (ok_move rfl (fun _ => rfl)) rfl rfl ?_
  refine TrL.gd rfl rfl rfl (ok_fldO rfl (fun _ => rfl)) rfl rfl ?_
  refine TrL.gd rfl rfl rfl (ok_ldB rfl id rfl) rfl rfl ?_
  refine TrL.gd rfl rfl rfl (ok_fldO rfl (fun _ => rfl)) rfl rfl ?_
  refine TrL.gd rfl rfl rfl (ok_ldB rfl id rfl) rfl rfl ?_
  refine TrL.gd rfl rfl rfl (ok_call (fun hp => ct_Ints _ _) (.a rfl id <| .a rfl id <| .nil)) rfl rfl ?_
  refine TrL.op (ok_and rfl (fun _ => rfl) rfl (fun hp h => gdT2 ((fun _ => rfl) hp) h)) rfl rfl ?_
  refine TrL.op (ok_assign rfl (fun _ => rfl)) rfl rfl ?_
  refine TrL.fin ?_
  refine End.nxt ?_
  refine Tr.ret ?_
  exact Rts.res1 (fn := Tryd.f20) rfl (.b rfl (by obtain ⟨a1, a2⟩ := a; obtain ⟨b1, b2⟩ := b; simp only [Prod.mk.injEq]; symm; exact Bool.decide_and _ _) <| .nil)

set_option maxRecDepth 100000 in
theorem ct_CopyInts (l : List Int) (hn : l.length ≤ 1000000) : Ct Tryd.prog 25 [kRd (eL eI) l] (kRd (eL eI) l) := by
  refine Ct.mk Tryd.func25 rfl Tryd.ntmps25 rfl (fun w J => ?_)
  refine Tr.seq ?_
  refine Tr.rg ?_
  refine TrL.op (ok_assign rfl (fun _ => rfl)) rfl rfl ?_
  refine TrL.fin ?_
  refine End.nxt ?_
  refine Tr.seq ?_
  refine Tr.rg ?_
  refine TrL.new (ok_bsl0 eI 3) rfl rfl rfl rfl ?_
  refine TrL.op (ok_move rfl (fun _ => rfl)) rfl rfl ?_
  refine TrL.app rfl rfl rfl rfl rfl rfl rfl rfl (by first | omega | (simp only [List.length_cons, List.length_nil]; omega)) (by first | omega | (simp only [List.length_cons, List.length_nil]; omega)) ?_
  refine TrL.norm (S' := [⟨_, _, _, _⟩, ⟨_, _, _, _⟩, ⟨_, _, _, _⟩, ⟨_, _, _, _⟩, ⟨_, _, _, _⟩]) rfl rfl ?_
  refine TrL.op (ok_assign rfl (fun _ => rfl)) rfl rfl ?_
  refine TrL.fin ?_
  refine End.nxt ?_
  refine Tr.frz 3 [2] ⟨rfl, trivial⟩ (by simp only [lenMax]; omega) rfl ?_
  refine Tr.ret ?_
  exact Rts.res1 (fn := Tryd.f25) rfl (.r rfl (by first | rfl | omega | (simp; done) | (simp; omega) | assumption) <| .nil)

set_option maxRecDepth 100000 in
theorem ct_Abs (n : Int) (h : -9223372036854775807 ≤ n) : Ct Tryd.prog 26 [kI n] (kI (if n < 0 then -n else n)) := by
  refine Ct.mk Tryd.func26 rfl Tryd.ntmps26 rfl (fun w J => ?_)
  refine Tr.seq ?_
  refine Tr.rg ?_
  refine TrL.op (ok_assign rfl (fun _ => rfl)) rfl rfl ?_
  refine TrL.fin ?_
  refine End.nxt ?_
  refine Tr.seq ?_
  refine Tr.seq ?_
  refine Tr.rg ?_
  refine TrL.op (ok_move rfl (fun _ => rfl)) rfl rfl ?_
  refine TrL.op (ok_lss rfl (fun _ => rfl) rfl (fun _ => rfl)) rfl rfl ?_
  refine TrL.fin ?_
  refine End.nxt ?_
  refine Tr.cnd rfl ?_ ?_
  · intro h1
    replace h1 := of_decide_eq_true h1
    refine Tr.seq ?_
    refine Tr.rg ?_
    refine TrL.op (ok_move rfl (fun _ => rfl)) rfl rfl ?_
    refine TrL.op (ok_negW rfl (fun _ => rfl)) rfl rfl ?_
    refine TrL.op (ok_assign rfl (fun _ => rfl)) rfl rfl ?_
    refine TrL.fin ?_
    refine End.nxt ?_
    refine Tr.ret ?_
    refine Rts.thn ?_
    exact Rts.res1 (fn := Tryd.f26) rfl (.i rfl (by rw [if_pos h1]; exact W_in (by omega) (by omega)) <| .nil)
  · intro h1
    replace h1 := Int.not_lt.1 (of_decide_eq_false h1)
    refine Tr.skip ?_
    refine End.nxt ?_
    refine Tr.seq ?_
    refine Tr.rg ?_
    refine TrL.op (ok_move rfl (fun _ => rfl)) rfl rfl ?_
    refine TrL.op (ok_assign rfl (fun _ => rfl)) rfl rfl ?_
    refine TrL.fin ?_
    refine End.nxt ?_
    refine Tr.ret ?_
    exact Rts.res1 (fn := Tryd.f26) rfl (.i rfl (by rw [if_neg (by omega)]) <| .nil)

set_option maxRecDepth 100000 in
theorem ct_Within (n a b : Int) : Ct Tryd.prog 37 [kI n, kI a, kI b] (kB (decide (a ≤ n ∧ n ≤ b))) := by
  refine Ct.mk Tryd.func37 rfl Tryd.ntmps37 rfl (fun w J => ?_)
  refine Tr.seq ?_
  refine Tr.rg ?_
  refine TrL.op (ok_assign rfl (fun _ => rfl)) rfl rfl ?_
  refine TrL.fin ?_
  refine End.nxt ?_
  refine Tr.seq ?_
  refine Tr.rg ?_
  refine TrL.op (ok_move rfl (fun _ => rfl)) rfl rfl ?_
  refine TrL.op (ok_move rfl (fun _ => rfl)) rfl rfl ?_
  refine TrL.op (ok_geq rfl (fun _ => rfl) rfl (fun _ => rfl)) rfl rfl ?_
  refine TrL.op (ok_move rfl (fun _ => rfl)) rfl rfl ?_
  refine TrL.gd rfl rfl rfl (ok_move rfl (fun _ => rfl)) rfl rfl ?_
  refine TrL.gd rfl rfl rfl (ok_move rfl (fun _ => rfl)) rfl rfl ?_
  refine TrL.gd rfl rfl rfl (ok_leq rfl id rfl id) rfl rfl ?_
  refine TrL.op (ok_and rfl (fun _ => rfl) rfl (fun hp h => gdT2 ((fun _ => rfl) hp) h)) rfl rfl ?_
  refine TrL.op (ok_assign rfl (fun _ => rfl)) rfl rfl ?_
  refine TrL.fin ?_
  refine End.nxt ?_
  refine Tr.ret ?_
  exact Rts.res1 (fn := Tryd.f37) rfl (.b rfl (by symm; exact Bool.decide_and _ _) <| .nil)

set_option maxRecDepth 100000 in
theorem ct_rCheckList (l : List Int) (n : Nat) : Ct Tryd.prog 46 [kRd (eL eI) l, kI (n : Int)] (kI (chkL l n)) := by
  refine Ct.mk Tryd.func46 rfl Tryd.ntmps46 rfl (fun w J => ?_)
  refine Tr.fact (s := 0) rfl (fun _ _ h => lenB h) (fun hb => ?_)
  refine Tr.seq ?_
  refine Tr.rg ?_
  refine TrL.op (ok_assign rfl (fun _ => rfl)) rfl rfl ?_
  refine TrL.fin ?_
  refine End.nxt ?_
  refine Tr.seq ?_
  refine Tr.seq ?_
  refine Tr.rg ?_
  refine TrL.op (ok_assign rfl (fun _ => rfl)) rfl rfl ?_
  refine TrL.fin ?_
  refine End.nxt ?_
  refine Tr.for1 (σ := Nat) [⟨0, true, _, _⟩, ⟨1, true, _, _⟩] [] (fun k => [⟨5, true, [], kI (k : Int)⟩]) (fun k => []) (fun k => k ≤ l.length ∧ ∀ i, i < k → 0 ≤ nth l i ∧ nth l i < n) (fun k => ∀ i, i < l.length → 0 ≤ nth l i ∧ nth l i < n) (fun k => l.length - k) (0) ⟨Nat.zero_le _, fun i h => absurd h (by omega)⟩ (Ent.mk (.i rfl (by first | rfl | omega | (simp; done) | (simp; omega) | assumption) <| .k rfl rfl <| .k rfl rfl <| .nil) (.nil) rfl) ?_ ?_
  · rintro k ⟨hk0, hR0⟩
    refine Tr.norm (S' := [⟨5, true, _, _⟩, ⟨0, true, _, _⟩, ⟨1, true, _, _⟩]) (M' := []) rfl rfl ?_
    refine Tr.seq ?_
    refine Tr.seq ?_
    refine Tr.rg ?_
    refine TrL.op (ok_move rfl (fun _ => rfl)) rfl rfl ?_
    refine TrL.op (ok_move rfl (fun _ => rfl)) rfl rfl ?_
    refine TrL.op (ok_lenJ rfl (fun _ => rfl)) rfl rfl ?_
    refine TrL.op (ok_lss rfl (fun _ => rfl) rfl (fun _ => rfl)) rfl rfl ?_
    refine TrL.fin ?_
    refine End.nxt ?_
    refine Tr.cnd rfl ?_ ?_
    · intro h2
      replace h2 := of_decide_eq_true h2
      refine Tr.skip ?_
      refine End.nxt ?_
      refine Tr.seq ?_
      refine Tr.blk ?_
      refine Tr.seq ?_
      refine Tr.rg ?_
      refine TrL.op (ok_move rfl (fun _ => rfl)) rfl rfl ?_
      refine TrL.op (ok_move rfl (fun _ => rfl)) rfl rfl ?_
      first | refine TrL.op (ok_idxN rfl (fun _ => rfl) rfl (fun _ => rfl) rfl (fun _ => by omega)) rfl rfl ?_ | refine TrL.op (ok_idxP rfl (fun _ => rfl) rfl (fun _ => rfl) rfl (fun _ => by omega)) rfl rfl ?_
      refine TrL.op (ok_ldP rfl (fun _ => rfl) rfl) rfl rfl ?_
      refine TrL.op (ok_lss rfl (fun _ => rfl) rfl (fun _ => rfl)) rfl rfl ?_
      refine TrL.op (ok_move rfl (fun _ => rfl)) rfl rfl ?_
      refine TrL.gd rfl rfl rfl (ok_move rfl (fun _ => rfl)) rfl rfl ?_
      refine TrL.gd rfl rfl rfl (ok_move rfl (fun _ => rfl)) rfl rfl ?_
      first | refine TrL.gd rfl rfl rfl (ok_idxN rfl id rfl id rfl (fun hp => by simp at hp; omega)) rfl rfl ?_ | refine TrL.gd rfl rfl rfl (ok_idxP rfl id rfl id rfl (fun hp => by simp at hp; omega)) rfl rfl ?_
      refine TrL.gd rfl rfl rfl (ok_ldP rfl id rfl) rfl rfl ?_
      refine TrL.gd rfl rfl rfl (ok_move rfl (fun _ => rfl)) rfl rfl ?_
      refine TrL.gd rfl rfl rfl (ok_geq rfl id rfl id) rfl rfl ?_
      refine TrL.op (ok_or rfl (fun _ => rfl) rfl (fun hp h => gdF2 ((fun _ => rfl) hp) h)) rfl rfl ?_
      refine TrL.fin ?_
      refine End.nxt ?_
      refine Tr.cnd rfl ?_ ?_
      · intro h4
        try simp only [decide_eq_true_eq, Bool.or_eq_true] at h4
        refine Tr.seq ?_
        refine Tr.rg ?_
        refine TrL.op (ok_assign rfl (fun _ => rfl)) rfl rfl ?_
        refine TrL.fin ?_
        refine End.nxt ?_
        refine Tr.ret ?_
        refine Rts.out ?_
        refine Rts.thn ?_
        refine Rts.thn ?_
        refine Rts.out ?_
        refine Rts.thn ?_
        refine Rts.thn ?_
        exact Rts.res1 (fn := Tryd.f46) rfl (.i rfl (chkL_out (i := k) (by omega) (by omega)) <| .nil)
      · intro h4
        try simp only [decide_eq_false_iff_not, Bool.or_eq_false_iff, Int.not_lt, Int.not_le] at h4
        refine Tr.skip ?_
        refine End.blk ?_
        refine End.nxt ?_
        refine Tr.rg ?_
        refine TrL.op (ok_move rfl (fun _ => rfl)) rfl rfl ?_
        refine TrL.op (ok_add rfl (fun _ => rfl) rfl (fun _ => rfl) (fun _ => by omega)) rfl rfl ?_
        refine TrL.op (ok_assign rfl (fun _ => rfl)) rfl rfl ?_
        refine TrL.fin ?_
        exact End.lp (k + 1) ⟨by omega, all_succ hR0 (by omega)⟩ (by omega) (Ent.mk (.i rfl (by first | rfl | omega | (simp; done) | (simp; omega) | assumption) <| .k rfl rfl <| .k rfl rfl <| .nil) (.nil) rfl)
    · intro h2
      replace h2 := Int.not_lt.1 (of_decide_eq_false h2)
      refine Tr.exit ?_
      refine Exs.thn ?_
      refine Exs.thn ?_
      refine Exs.here ?_
      exact End.cut (k) (fun i hi => hR0 i (by omega)) (Ent.mk (.i rfl (by first | rfl | omega | (simp; done) | (simp; omega) | assumption) <| .k rfl rfl <| .k rfl rfl <| .nil) (.nil) rfl)
  · intro k hE0
    refine End.norm (S' := [⟨5, true, _, _⟩, ⟨0, true, _, _⟩, ⟨1, true, _, _⟩]) (M' := []) rfl rfl ?_
    refine End.nxt ?_
    refine Tr.seq ?_
    refine Tr.seq ?_
    refine Tr.rg ?_
    refine TrL.op (ok_assign rfl (fun _ => rfl)) rfl rfl ?_
    refine TrL.fin ?_
    refine End.nxt ?_
    refine Tr.for1 (σ := Nat) [⟨0, true, _, _⟩] [] (fun m => [⟨6, true, [], kI (m : Int)⟩]) (fun m => []) (fun m => m ≤ l.length ∧ ∀ i, i < m → ∀ q, q < i → nth l i ≠ nth l q) (fun m => l.Nodup) (fun m => l.length - m) (0) ⟨Nat.zero_le _, fun i h => absurd h (by omega)⟩ (Ent.mk (.i rfl (by first | rfl | omega | (simp; done) | (simp; omega) | assumption) <| .k rfl rfl <| .nil) (.nil) rfl) ?_ ?_
    · rintro m ⟨hk1, hR1⟩
      refine Tr.norm (S' := [⟨6, true, _, _⟩, ⟨0, true, _, _⟩]) (M' := []) rfl rfl ?_
      refine Tr.seq ?_
      refine Tr.seq ?_
      refine Tr.rg ?_
      refine TrL.op (ok_move rfl (fun _ => rfl)) rfl rfl ?_
      refine TrL.op (ok_move rfl (fun _ => rfl)) rfl rfl ?_
      refine TrL.op (ok_lenJ rfl (fun _ => rfl)) rfl rfl ?_
      refine TrL.op (ok_lss rfl (fun _ => rfl) rfl (fun _ => rfl)) rfl rfl ?_
      refine TrL.fin ?_
      refine End.nxt ?_
      refine Tr.cnd rfl ?_ ?_
      · intro h7
        replace h7 := of_decide_eq_true h7
        refine Tr.skip ?_
        refine End.nxt ?_
        refine Tr.seq ?_
        refine Tr.blk ?_
        refine Tr.seq ?_
        refine Tr.rg ?_
        refine TrL.op (ok_assign rfl (fun _ => rfl)) rfl rfl ?_
        refine TrL.fin ?_
        refine End.nxt ?_
        refine Tr.for1 (σ := Nat) [⟨0, true, _, _⟩, ⟨6, true, _, _⟩] [] (fun q => [⟨7, true, [], kI (q : Int)⟩]) (fun q => []) (fun q => q ≤ m ∧ ∀ i, i < q → nth l m ≠ nth l i) (fun q => ∀ i, i < m → nth l m ≠ nth l i) (fun q => m - q) (0) ⟨Nat.zero_le _, fun i h => absurd h (by omega)⟩ (Ent.mk (.i rfl (by first | rfl | omega | (simp; done) | (simp; omega) | assumption) <| .k rfl rfl <| .k rfl rfl <| .nil) (.nil) rfl) ?_ ?_
        · rintro q ⟨hk2, hR2⟩
          refine Tr.norm (S' := [⟨7, true, _, _⟩, ⟨0, true, _, _⟩, ⟨6, true, _, _⟩]) (M' := []) rfl rfl ?_
          refine Tr.seq ?_
          refine Tr.seq ?_
          refine Tr.rg ?_
          refine TrL.op (ok_move rfl (fun _ => rfl)) rfl rfl ?_
          refine TrL.op (ok_move rfl (fun _ => rfl)) rfl rfl ?_
          refine TrL.op (ok_lss rfl (fun _ => rfl) rfl (fun _ => rfl)) rfl rfl ?_
          refine TrL.fin ?_
          refine End.nxt ?_
          refine Tr.cnd rfl ?_ ?_
          · intro h10
            replace h10 := of_decide_eq_true h10
            refine Tr.skip ?_
            refine End.nxt ?_
            refine Tr.seq ?_
            refine Tr.blk ?_
            refine Tr.seq ?_
            refine Tr.draw 8 mixed (by kernel_rfl) ?_
            refine RunD.op (ok_move rfl (fun _ => rfl)) rfl rfl ?_
            refine RunD.op (ok_move rfl (fun _ => rfl)) rfl rfl ?_
            first | refine RunD.op (ok_idxN rfl (fun _ => rfl) rfl (fun _ => rfl) rfl (fun _ => by omega)) rfl rfl ?_ | refine RunD.op (ok_idxP rfl (fun _ => rfl) rfl (fun _ => rfl) rfl (fun _ => by omega)) rfl rfl ?_
            refine RunD.op (ok_ldP rfl (fun _ => rfl) rfl) rfl rfl ?_
            refine RunD.op (ok_move rfl (fun _ => rfl)) rfl rfl ?_
            refine RunD.op (ok_move rfl (fun _ => rfl)) rfl rfl ?_
            first | refine RunD.op (ok_idxN rfl (fun _ => rfl) rfl (fun _ => rfl) rfl (fun _ => by omega)) rfl rfl ?_ | refine RunD.op (ok_idxP rfl (fun _ => rfl) rfl (fun _ => rfl) rfl (fun _ => by omega)) rfl rfl ?_
            refine RunD.op (ok_ldP rfl (fun _ => rfl) rfl) rfl rfl ?_
            refine RunD.z ?_
            refine TrL.op (ok_eql rfl (fun _ => rfl) rfl (fun _ => rfl)) rfl rfl ?_
            refine TrL.fin ?_
            refine End.nxt ?_
            refine Tr.cnd rfl ?_ ?_
            · intro h12
              replace h12 := of_decide_eq_true h12
              refine Tr.seq ?_
              refine Tr.rg ?_
              refine TrL.op (ok_assign rfl (fun _ => rfl)) rfl rfl ?_
              refine TrL.fin ?_
              refine End.nxt ?_
              refine Tr.ret ?_
              refine Rts.out ?_
              refine Rts.thn ?_
              refine Rts.thn ?_
              refine Rts.out ?_
              refine Rts.thn ?_
              refine Rts.out ?_
              refine Rts.thn ?_
              refine Rts.thn ?_
              refine Rts.out ?_
              refine Rts.thn ?_
              refine Rts.thn ?_
              exact Rts.res1 (fn := Tryd.f46) rfl (.i rfl (chkL_dup hE0 (i := m) (k := q) (by omega) (by omega) h12) <| .nil)
            · intro h12
              replace h12 := of_decide_eq_false h12
              refine Tr.skip ?_
              refine End.blk ?_
              refine End.nxt ?_
              refine Tr.rg ?_
              refine TrL.op (ok_move rfl (fun _ => rfl)) rfl rfl ?_
              refine TrL.op (ok_add rfl (fun _ => rfl) rfl (fun _ => rfl) (fun _ => by omega)) rfl rfl ?_
              refine TrL.op (ok_assign rfl (fun _ => rfl)) rfl rfl ?_
              refine TrL.fin ?_
              exact End.lp (q + 1) ⟨by omega, all_succ hR2 h12⟩ (by omega) (Ent.mk (.i rfl (by first | rfl | omega | (simp; done) | (simp; omega) | assumption) <| .k rfl rfl <| .k rfl rfl <| .nil) (.nil) rfl)
          · intro h10
            replace h10 := Int.not_lt.1 (of_decide_eq_false h10)
            refine Tr.exit ?_
            refine Exs.thn ?_
            refine Exs.thn ?_
            refine Exs.here ?_
            exact End.cut (q) (fun i hi => hR2 i (by omega)) (Ent.mk (.i rfl (by first | rfl | omega | (simp; done) | (simp; omega) | assumption) <| .k rfl rfl <| .k rfl rfl <| .nil) (.nil) rfl)
        · intro q hE2
          refine End.norm (S' := [⟨7, true, _, _⟩, ⟨0, true, _, _⟩, ⟨6, true, _, _⟩]) (M' := []) rfl rfl ?_
          refine End.blk ?_
          refine End.nxt ?_
          refine Tr.rg ?_
          refine TrL.op (ok_move rfl (fun _ => rfl)) rfl rfl ?_
          refine TrL.op (ok_add rfl (fun _ => rfl) rfl (fun _ => rfl) (fun _ => by omega)) rfl rfl ?_
          refine TrL.op (ok_assign rfl (fun _ => rfl)) rfl rfl ?_
          refine TrL.fin ?_
          exact End.lp (m + 1) ⟨by omega, all_succ hR1 hE2⟩ (by omega) (Ent.mk (.i rfl (by first | rfl | omega | (simp; done) | (simp; omega) | assumption) <| .k rfl rfl <| .nil) (.nil) rfl)
      · intro h7
        replace h7 := Int.not_lt.1 (of_decide_eq_false h7)
        refine Tr.exit ?_
        refine Exs.thn ?_
        refine Exs.thn ?_
        refine Exs.here ?_
        exact End.cut (m) (nodup_of_pairs (fun i hi => hR1 i (by omega))) (Ent.mk (.i rfl (by first | rfl | omega | (simp; done) | (simp; omega) | assumption) <| .k rfl rfl <| .nil) (.nil) rfl)
    · intro m hE1
      refine End.norm (S' := [⟨6, true, _, _⟩, ⟨0, true, _, _⟩]) (M' := []) rfl rfl ?_
      refine End.nxt ?_
      refine Tr.seq ?_
      refine Tr.rg ?_
      refine TrL.op (ok_assign rfl (fun _ => rfl)) rfl rfl ?_
      refine TrL.fin ?_
      refine End.nxt ?_
      refine Tr.ret ?_
      exact Rts.res1 (fn := Tryd.f46) rfl (.i rfl (chkL_in hE0 hE1) <| .nil)

set_option maxRecDepth 100000 in
theorem ct_rCheck (o : Ori) : Ct Tryd.prog 14 [kRd eO o] (kI (chkO o)) := by
  refine Ct.mk Tryd.func14 rfl Tryd.ntmps14 rfl (fun w J => ?_)
  refine Tr.seq ?_
  refine Tr.rg ?_
  refine TrL.new (ok_box 1 rfl (fun _ => rfl) rfl) rfl rfl rfl rfl ?_
  refine TrL.op (ok_assign rfl (fun _ => rfl)) rfl rfl ?_
  refine TrL.fin ?_
  refine End.nxt ?_
  refine Tr.seq ?_
  refine Tr.rg ?_
  refine TrL.op (ok_fldO rfl (fun _ => rfl)) rfl rfl ?_
  refine TrL.op (ok_ldB rfl (fun _ => rfl) rfl) rfl rfl ?_
  refine TrL.op (ok_lenJ rfl (fun _ => rfl)) rfl rfl ?_
  refine TrL.op (ok_assign rfl (fun _ => rfl)) rfl rfl ?_
  refine TrL.fin ?_
  refine End.nxt ?_
  refine Tr.seq ?_
  refine Tr.seq ?_
  refine Tr.rg ?_
  refine TrL.op (ok_move rfl (fun _ => rfl)) rfl rfl ?_
  refine TrL.op (ok_fldO rfl (fun _ => rfl)) rfl rfl ?_
  refine TrL.op (ok_ldB rfl (fun _ => rfl) rfl) rfl rfl ?_
  refine TrL.op (ok_lenJ rfl (fun _ => rfl)) rfl rfl ?_
  refine TrL.op (ok_neq rfl (fun _ => rfl) rfl (fun _ => rfl)) rfl rfl ?_
  refine TrL.op (ok_move rfl (fun _ => rfl)) rfl rfl ?_
  refine TrL.gd rfl rfl rfl (ok_move rfl (fun _ => rfl)) rfl rfl ?_
  refine TrL.gd rfl rfl rfl (ok_eql rfl id rfl (fun _ => rfl)) rfl rfl ?_
  refine TrL.op (ok_or rfl (fun _ => rfl) rfl (fun hp h => gdF2 ((fun _ => rfl) hp) h)) rfl rfl ?_
  refine TrL.fin ?_
  refine End.nxt ?_
  refine Tr.cnd rfl ?_ ?_
  · intro h2
    try simp only [decide_eq_true_eq, Bool.or_eq_true, ne_eq] at h2
    refine Tr.seq ?_
    refine Tr.rg ?_
    refine TrL.op (ok_assign rfl (fun _ => rfl)) rfl rfl ?_
    refine TrL.fin ?_
    refine End.nxt ?_
    refine Tr.ret ?_
    refine Rts.thn ?_
    exact Rts.res1 (fn := Tryd.f14) rfl (.i rfl (by unfold chkO; rw [if_pos (by omega)]) <| .nil)
  · intro h2
    try simp only [decide_eq_false_iff_not, Bool.or_eq_false_iff, ne_eq, Classical.not_not] at h2
    refine Tr.skip ?_
    refine End.nxt ?_
    refine Tr.seq ?_
    refine Tr.seq ?_
    refine Tr.rg ?_
    refine TrL.op (ok_move rfl (fun _ => rfl)) rfl rfl ?_
    refine TrL.op (ok_gtr rfl (fun _ => rfl) rfl (fun _ => rfl)) rfl rfl ?_
    refine TrL.fin ?_
    refine End.nxt ?_
    refine Tr.cnd rfl ?_ ?_
    · intro h4
      replace h4 := of_decide_eq_true h4
      refine Tr.seq ?_
      refine Tr.rg ?_
      refine TrL.op (ok_assign rfl (fun _ => rfl)) rfl rfl ?_
      refine TrL.fin ?_
      refine End.nxt ?_
      refine Tr.ret ?_
      refine Rts.thn ?_
      exact Rts.res1 (fn := Tryd.f14) rfl (.i rfl (by unfold chkO; rw [if_neg (by omega), if_pos (by omega)]) <| .nil)
    · intro h4
      replace h4 := Int.not_lt.1 (of_decide_eq_false h4)
      refine Tr.skip ?_
      refine End.nxt ?_
      refine Tr.seq ?_
      refine Tr.seq ?_
      refine Tr.rg ?_
      refine TrL.op (ok_fldO rfl (fun _ => rfl)) rfl rfl ?_
      refine TrL.op (ok_ldB rfl (fun _ => rfl) rfl) rfl rfl ?_
      refine TrL.op (ok_move rfl (fun _ => rfl)) rfl rfl ?_
      refine TrL.op (ok_call (fun hp => ct_rCheckList _ _) (.a rfl (fun _ => rfl) <| .a rfl (fun _ => rfl) <| .nil)) rfl rfl ?_
      refine TrL.op (ok_assign rfl (fun _ => rfl)) rfl rfl ?_
      refine TrL.fin ?_
      refine End.nxt ?_
      refine Tr.seq ?_
      refine Tr.rg ?_
      refine TrL.op (ok_move rfl (fun _ => rfl)) rfl rfl ?_
      refine TrL.op (ok_neq rfl (fun _ => rfl) rfl (fun _ => rfl)) rfl rfl ?_
      refine TrL.fin ?_
      refine End.nxt ?_
      refine Tr.cnd rfl ?_ ?_
      · intro h7
        replace h7 := of_decide_eq_true h7
        refine Tr.seq ?_
        refine Tr.rg ?_
        refine TrL.op (ok_move rfl (fun _ => rfl)) rfl rfl ?_
        refine TrL.op (ok_assign rfl (fun _ => rfl)) rfl rfl ?_
        refine TrL.fin ?_
        refine End.nxt ?_
        refine Tr.ret ?_
        refine Rts.thn ?_
        exact Rts.res1 (fn := Tryd.f14) rfl (.i rfl (by unfold chkO; rw [if_neg (by omega), if_neg (by omega), if_pos h7]) <| .nil)
      · intro h7
        replace h7 := Classical.not_not.1 (of_decide_eq_false h7)
        refine Tr.skip ?_
        refine End.nxt ?_
        refine Tr.seq ?_
        refine Tr.rg ?_
        refine TrL.op (ok_fldO rfl (fun _ => rfl)) rfl rfl ?_
        refine TrL.op (ok_ldB rfl (fun _ => rfl) rfl) rfl rfl ?_
        refine TrL.op (ok_move rfl (fun _ => rfl)) rfl rfl ?_
        refine TrL.op (ok_call (fun hp => ct_rCheckList _ _) (.a rfl (fun _ => rfl) <| .a rfl (fun _ => rfl) <| .nil)) rfl rfl ?_
        refine TrL.op (ok_assign rfl (fun _ => rfl)) rfl rfl ?_
        refine TrL.fin ?_
        refine End.nxt ?_
        refine Tr.ret ?_
        exact Rts.res1 (fn := Tryd.f14) rfl (.i rfl (by unfold chkO; rw [if_neg (by omega), if_neg (by omega), if_neg (by omega)]) <| .nil)

set_option maxRecDepth 100000 in
theorem ct_rAt (l : List Int) (x : Int) : Ct Tryd.prog 67 [kRd (eL eI) l, kI x] (kI (atL l x)) := by
  refine Ct.mk Tryd.func67 rfl Tryd.ntmps67 rfl (fun w J => ?_)
  refine Tr.fact (s := 0) rfl (fun _ _ h => lenB h) (fun hb => ?_)
  refine Tr.seq ?_
  refine Tr.rg ?_
  refine TrL.op (ok_assign rfl (fun _ => rfl)) rfl rfl ?_
  refine TrL.fin ?_
  refine End.nxt ?_
  refine Tr.seq ?_
  refine Tr.seq ?_
  refine Tr.rg ?_
  refine TrL.op (ok_assign rfl (fun _ => rfl)) rfl rfl ?_
  refine TrL.fin ?_
  refine End.nxt ?_
  refine Tr.for1 (σ := Nat) [⟨0, true, _, _⟩, ⟨1, true, _, _⟩] [] (fun k => [⟨5, true, [], kI (k : Int)⟩]) (fun k => []) (fun k => k ≤ l.length ∧ ∀ i, i < k → nth l i ≠ x) (fun k => ∀ i, i < l.length → nth l i ≠ x) (fun k => l.length - k) (0) ⟨Nat.zero_le _, fun i h => absurd h (by omega)⟩ (Ent.mk (.i rfl (by first | rfl | omega | (simp; done) | (simp; omega) | assumption) <| .k rfl rfl <| .k rfl rfl <| .nil) (.nil) rfl) ?_ ?_
  · rintro k ⟨hk0, hR0⟩
    refine Tr.norm (S' := [⟨5, true, _, _⟩, ⟨0, true, _, _⟩, ⟨1, true, _, _⟩]) (M' := []) rfl rfl ?_
    refine Tr.seq ?_
    refine Tr.seq ?_
    refine Tr.rg ?_
    refine TrL.op (ok_move rfl (fun _ => rfl)) rfl rfl ?_
    refine TrL.op (ok_move rfl (fun _ => rfl)) rfl rfl ?_
    refine TrL.op (ok_lenJ rfl (fun _ => rfl)) rfl rfl ?_
    refine TrL.op (ok_lss rfl (fun _ => rfl) rfl (fun _ => rfl)) rfl rfl ?_
    refine TrL.fin ?_
    refine End.nxt ?_
    refine Tr.cnd rfl ?_ ?_
    · intro h2
      replace h2 := of_decide_eq_true h2
      refine Tr.skip ?_
      refine End.nxt ?_
      refine Tr.seq ?_
      refine Tr.blk ?_
      refine Tr.seq ?_
      refine Tr.rg ?_
      refine TrL.op (ok_move rfl (fun _ => rfl)) rfl rfl ?_
      refine TrL.op (ok_move rfl (fun _ => rfl)) rfl rfl ?_
      first | refine TrL.op (ok_idxN rfl (fun _ => rfl) rfl (fun _ => rfl) rfl (fun _ => by omega)) rfl rfl ?_ | refine TrL.op (ok_idxP rfl (fun _ => rfl) rfl (fun _ => rfl) rfl (fun _ => by omega)) rfl rfl ?_
      refine TrL.op (ok_ldP rfl (fun _ => rfl) rfl) rfl rfl ?_
      refine TrL.op (ok_move rfl (fun _ => rfl)) rfl rfl ?_
      refine TrL.op (ok_eql rfl (fun _ => rfl) rfl (fun _ => rfl)) rfl rfl ?_
      refine TrL.fin ?_
      refine End.nxt ?_
      refine Tr.cnd rfl ?_ ?_
      · intro h4
        replace h4 := of_decide_eq_true h4
        refine Tr.seq ?_
        refine Tr.rg ?_
        refine TrL.op (ok_move rfl (fun _ => rfl)) rfl rfl ?_
        refine TrL.op (ok_assign rfl (fun _ => rfl)) rfl rfl ?_
        refine TrL.fin ?_
        refine End.nxt ?_
        refine Tr.ret ?_
        refine Rts.out ?_
        refine Rts.thn ?_
        refine Rts.thn ?_
        refine Rts.out ?_
        refine Rts.thn ?_
        refine Rts.thn ?_
        exact Rts.res1 (fn := Tryd.f67) rfl (.i rfl (atL_at (by omega) hR0 h4) <| .nil)
      · intro h4
        replace h4 := of_decide_eq_false h4
        refine Tr.skip ?_
        refine End.blk ?_
        refine End.nxt ?_
        refine Tr.rg ?_
        refine TrL.op (ok_move rfl (fun _ => rfl)) rfl rfl ?_
        refine TrL.op (ok_add rfl (fun _ => rfl) rfl (fun _ => rfl) (fun _ => by omega)) rfl rfl ?_
        refine TrL.op (ok_assign rfl (fun _ => rfl)) rfl rfl ?_
        refine TrL.fin ?_
        exact End.lp (k + 1) ⟨by omega, all_succ hR0 h4⟩ (by omega) (Ent.mk (.i rfl (by first | rfl | omega | (simp; done) | (simp; omega) | assumption) <| .k rfl rfl <| .k rfl rfl <| .nil) (.nil) rfl)
    · intro h2
      replace h2 := Int.not_lt.1 (of_decide_eq_false h2)
      refine Tr.exit ?_
      refine Exs.thn ?_
      refine Exs.thn ?_
      refine Exs.here ?_
      exact End.cut (k) (fun i hi => hR0 i (by omega)) (Ent.mk (.i rfl (by first | rfl | omega | (simp; done) | (simp; omega) | assumption) <| .k rfl rfl <| .k rfl rfl <| .nil) (.nil) rfl)
  · intro k hE0
    refine End.norm (S' := [⟨5, true, _, _⟩, ⟨0, true, _, _⟩, ⟨1, true, _, _⟩]) (M' := []) rfl rfl ?_
    refine End.nxt ?_
    refine Tr.seq ?_
    refine Tr.rg ?_
    refine TrL.op (ok_assign rfl (fun _ => rfl)) rfl rfl ?_
    refine TrL.fin ?_
    refine End.nxt ?_
    refine Tr.ret ?_
    exact Rts.res1 (fn := Tryd.f67) rfl (.i rfl (atL_none hE0) <| .nil)

set_option maxRecDepth 100000 in
theorem ct_rInverse (l : List Int) (hn : l.length ≤ 1000) : Ct Tryd.prog 47 [kRd (eL eI) l] (kRd (eL eI) (invA l)) := by
  refine Ct.mk Tryd.func47 rfl Tryd.ntmps47 rfl (fun w J => ?_)
  refine Tr.seq ?_
  refine Tr.rg ?_
  refine TrL.op (ok_assign rfl (fun _ => rfl)) rfl rfl ?_
  refine TrL.fin ?_
  refine End.nxt ?_
  refine Tr.seq ?_
  refine Tr.rg ?_
  refine TrL.op (ok_assign rfl (fun _ => rfl)) rfl rfl ?_
  refine TrL.fin ?_
  refine End.nxt ?_
  refine Tr.seq ?_
  refine Tr.seq ?_
  refine Tr.rg ?_
  refine TrL.op (ok_assign rfl (fun _ => rfl)) rfl rfl ?_
  refine TrL.fin ?_
  refine End.nxt ?_
  refine Tr.grow (s := 3) rfl rfl 3 rfl 3 eI rfl ?_
  refine Tr.for1 (σ := Nat) [⟨0, true, _, _⟩] [] (fun k => [⟨4, true, [], kI (k : Int)⟩, ⟨3, true, [3], kOsl 3 k⟩]) (fun k => [⟨3, [], cArr true 3 eI (tab k (fun i : Nat => atL l i)) k⟩]) (fun k => k ≤ l.length) (fun k => k = l.length) (fun k => l.length - k) (0) (Nat.zero_le _) (Ent.mk (.i rfl (by first | rfl | omega | (simp; done) | (simp; omega) | assumption) <| .o rfl (by first | rfl | omega | (simp; done) | (simp; omega) | assumption) rfl <| .k rfl rfl <| .nil) (.a (by rfl) (by first | rfl | omega | (simp; done) | (simp; omega) | assumption) <| .nil) rfl) ?_ ?_
  · intro k hR0
    refine Tr.norm (S' := [⟨4, true, _, _⟩, ⟨3, true, _, _⟩, ⟨0, true, _, _⟩]) (M' := [⟨3, _, _⟩]) rfl rfl ?_
    refine Tr.seq ?_
    refine Tr.seq ?_
    refine Tr.rg ?_
    refine TrL.op (ok_move rfl (fun _ => rfl)) rfl rfl ?_
    refine TrL.op (ok_move rfl (fun _ => rfl)) rfl rfl ?_
    refine TrL.op (ok_lenJ rfl (fun _ => rfl)) rfl rfl ?_
    refine TrL.op (ok_lss rfl (fun _ => rfl) rfl (fun _ => rfl)) rfl rfl ?_
    refine TrL.fin ?_
    refine End.nxt ?_
    refine Tr.cnd rfl ?_ ?_
    · intro h3
      replace h3 := of_decide_eq_true h3
      refine Tr.skip ?_
      refine End.nxt ?_
      refine Tr.seq ?_
      refine Tr.blk ?_
      refine Tr.rg ?_
      refine TrL.op (ok_move rfl (fun _ => rfl)) rfl rfl ?_
      refine TrL.op (ok_move rfl (fun _ => rfl)) rfl rfl ?_
      refine TrL.op (ok_move rfl (fun _ => rfl)) rfl rfl ?_
      refine TrL.op (ok_call (fun hp => ct_rAt _ _) (.a rfl (fun _ => rfl) <| .a rfl (fun _ => rfl) <| .nil)) rfl rfl ?_
      refine TrL.new (ok_bsl eI 15 (fun hp => .cons rfl <| .nil) rfl rfl rfl rfl) rfl rfl rfl rfl ?_
      refine TrL.app rfl rfl rfl rfl rfl rfl rfl rfl (by first | omega | (simp only [List.length_cons, List.length_nil]; omega)) (by first | omega | (simp only [List.length_cons, List.length_nil]; omega)) ?_
      refine TrL.norm (S' := [⟨_, _, _, _⟩, ⟨_, _, _, _⟩, ⟨_, _, _, _⟩, ⟨_, _, _, _⟩, ⟨_, _, _, _⟩, ⟨_, _, _, _⟩, ⟨_, _, _, _⟩, ⟨_, _, _, _⟩, ⟨_, _, _, _⟩, ⟨_, _, _, _⟩, ⟨_, _, _, _⟩, ⟨_, _, _, _⟩, ⟨_, _, _, _⟩]) rfl rfl ?_
      refine TrL.op (ok_assign rfl (fun _ => rfl)) rfl rfl ?_
      refine TrL.fin ?_
      refine End.blk ?_
      refine End.nxt ?_
      refine Tr.rg ?_
      refine TrL.op (ok_move rfl (fun _ => rfl)) rfl rfl ?_
      refine TrL.op (ok_add rfl (fun _ => rfl) rfl (fun _ => rfl) (fun _ => by omega)) rfl rfl ?_
      refine TrL.op (ok_assign rfl (fun _ => rfl)) rfl rfl ?_
      refine TrL.fin ?_
      exact End.lp (k + 1) (by first | rfl | omega | (simp; done) | (simp; omega) | assumption) (by omega) (Ent.mk (.i rfl (by first | rfl | omega | (simp; done) | (simp; omega) | assumption) <| .o rfl (by first | rfl | omega | (simp; done) | (simp; omega) | assumption) rfl <| .k rfl rfl <| .nil) (.a tab_succ.symm (by first | rfl | omega | (simp; done) | (simp; omega) | assumption) <| .nil) rfl)
    · intro h3
      replace h3 := Int.not_lt.1 (of_decide_eq_false h3)
      refine Tr.exit ?_
      refine Exs.thn ?_
      refine Exs.thn ?_
      refine Exs.here ?_
      exact End.cut (k) (by omega) (Ent.mk (.i rfl (by first | rfl | omega | (simp; done) | (simp; omega) | assumption) <| .o rfl (by first | rfl | omega | (simp; done) | (simp; omega) | assumption) rfl <| .k rfl rfl <| .nil) (.a (by first | rfl | omega | (simp; done) | (simp; omega) | assumption) (by first | rfl | omega | (simp; done) | (simp; omega) | assumption) <| .nil) rfl)
  · rintro _ rfl
    refine End.norm (S' := [⟨4, true, _, _⟩, ⟨3, true, _, _⟩, ⟨0, true, _, _⟩]) (M' := [⟨3, _, _⟩]) rfl rfl ?_
    refine End.nxt ?_
    refine Tr.seq ?_
    refine Tr.rg ?_
    refine TrL.op (ok_move rfl (fun _ => rfl)) rfl rfl ?_
    refine TrL.op (ok_assign rfl (fun _ => rfl)) rfl rfl ?_
    refine TrL.fin ?_
    refine End.nxt ?_
    refine Tr.frz 3 [2] ⟨rfl, trivial⟩ (by simp only [lenMax]; omega) rfl ?_
    refine Tr.ret ?_
    exact Rts.res1 (fn := Tryd.f47) rfl (.r rfl (by first | rfl | omega | (simp; done) | (simp; omega) | assumption) <| .nil)

set_option maxRecDepth 100000 in
theorem ct_rAfter (p q : List Int) (hn : p.length ≤ 1000) (hp : inR p q.length) : Ct Tryd.prog 68 [kRd (eL eI) p, kRd (eL eI) q] (kRd (eL eI) (thenL p q)) := by
  refine Ct.mk Tryd.func68 rfl Tryd.ntmps68 rfl (fun w J => ?_)
  refine Tr.seq ?_
  refine Tr.rg ?_
  refine TrL.op (ok_assign rfl (fun _ => rfl)) rfl rfl ?_
  refine TrL.fin ?_
  refine End.nxt ?_
  refine Tr.seq ?_
  refine Tr.rg ?_
  refine TrL.op (ok_assign rfl (fun _ => rfl)) rfl rfl ?_
  refine TrL.fin ?_
  refine End.nxt ?_
  refine Tr.seq ?_
  refine Tr.seq ?_
  refine Tr.rg ?_
  refine TrL.op (ok_assign rfl (fun _ => rfl)) rfl rfl ?_
  refine TrL.fin ?_
  refine End.nxt ?_
  refine Tr.grow (s := 5) rfl rfl 5 rfl 3 eI rfl ?_
  refine Tr.for1 (σ := Nat) [⟨0, true, _, _⟩, ⟨1, true, _, _⟩] [] (fun k => [⟨6, true, [], kI (k : Int)⟩, ⟨5, true, [5], kOsl 5 k⟩]) (fun k => [⟨5, [], cArr true 3 eI (tab k (fun i => nth q (nth p i).toNat)) k⟩]) (fun k => k ≤ p.length) (fun k => k = p.length) (fun k => p.length - k) (0) (Nat.zero_le _) (Ent.mk (.i rfl (by first | rfl | omega | (simp; done) | (simp; omega) | assumption) <| .o rfl (by first | rfl | omega | (simp; done) | (simp; omega) | assumption) rfl <| .k rfl rfl <| .k rfl rfl <| .nil) (.a (by rfl) (by first | rfl | omega | (simp; done) | (simp; omega) | assumption) <| .nil) rfl) ?_ ?_
  · intro k hR0
    refine Tr.norm (S' := [⟨6, true, _, _⟩, ⟨5, true, _, _⟩, ⟨0, true, _, _⟩, ⟨1, true, _, _⟩]) (M' := [⟨5, _, _⟩]) rfl rfl ?_
    have hpk := hp k
    refine Tr.seq ?_
    refine Tr.seq ?_
    refine Tr.rg ?_
    refine TrL.op (ok_move rfl (fun _ => rfl)) rfl rfl ?_
    refine TrL.op (ok_move rfl (fun _ => rfl)) rfl rfl ?_
    refine TrL.op (ok_lenJ rfl (fun _ => rfl)) rfl rfl ?_
    refine TrL.op (ok_lss rfl (fun _ => rfl) rfl (fun _ => rfl)) rfl rfl ?_
    refine TrL.fin ?_
    refine End.nxt ?_
    refine Tr.cnd rfl ?_ ?_
    · intro h3
      replace h3 := of_decide_eq_true h3
      refine Tr.skip ?_
      refine End.nxt ?_
      refine Tr.seq ?_
      refine Tr.blk ?_
      refine Tr.rg ?_
      refine TrL.op (ok_move rfl (fun _ => rfl)) rfl rfl ?_
      refine TrL.op (ok_move rfl (fun _ => rfl)) rfl rfl ?_
      refine TrL.op (ok_move rfl (fun _ => rfl)) rfl rfl ?_
      refine TrL.op (ok_move rfl (fun _ => rfl)) rfl rfl ?_
      first | refine TrL.op (ok_idxN rfl (fun _ => rfl) rfl (fun _ => rfl) rfl (fun _ => by omega)) rfl rfl ?_ | refine TrL.op (ok_idxP rfl (fun _ => rfl) rfl (fun _ => rfl) rfl (fun _ => by omega)) rfl rfl ?_
      refine TrL.op (ok_ldP rfl (fun _ => rfl) rfl) rfl rfl ?_
      first | refine TrL.op (ok_idxN rfl (fun _ => rfl) rfl (fun _ => rfl) rfl (fun _ => by omega)) rfl rfl ?_ | refine TrL.op (ok_idxP rfl (fun _ => rfl) rfl (fun _ => rfl) rfl (fun _ => by omega)) rfl rfl ?_
      refine TrL.op (ok_ldP rfl (fun _ => rfl) rfl) rfl rfl ?_
      refine TrL.new (ok_bsl eI 21 (fun hp => .cons rfl <| .nil) rfl rfl rfl rfl) rfl rfl rfl rfl ?_
      refine TrL.app rfl rfl rfl rfl rfl rfl rfl rfl (by first | omega | (simp only [List.length_cons, List.length_nil]; omega)) (by first | omega | (simp only [List.length_cons, List.length_nil]; omega)) ?_
      refine TrL.norm (S' := [⟨_, _, _, _⟩, ⟨_, _, _, _⟩, ⟨_, _, _, _⟩, ⟨_, _, _, _⟩, ⟨_, _, _, _⟩, ⟨_, _, _, _⟩, ⟨_, _, _, _⟩, ⟨_, _, _, _⟩, ⟨_, _, _, _⟩, ⟨_, _, _, _⟩, ⟨_, _, _, _⟩, ⟨_, _, _, _⟩, ⟨_, _, _, _⟩, ⟨_, _, _, _⟩, ⟨_, _, _, _⟩, ⟨_, _, _, _⟩, ⟨_, _, _, _⟩, ⟨_, _, _, _⟩]) rfl rfl ?_
      refine TrL.op (ok_assign rfl (fun _ => rfl)) rfl rfl ?_
      refine TrL.fin ?_
      refine End.blk ?_
      refine End.nxt ?_
      refine Tr.rg ?_
      refine TrL.op (ok_move rfl (fun _ => rfl)) rfl rfl ?_
      refine TrL.op (ok_add rfl (fun _ => rfl) rfl (fun _ => rfl) (fun _ => by omega)) rfl rfl ?_
      refine TrL.op (ok_assign rfl (fun _ => rfl)) rfl rfl ?_
      refine TrL.fin ?_
      exact End.lp (k + 1) (by first | rfl | omega | (simp; done) | (simp; omega) | assumption) (by omega) (Ent.mk (.i rfl (by first | rfl | omega | (simp; done) | (simp; omega) | assumption) <| .o rfl (by first | rfl | omega | (simp; done) | (simp; omega) | assumption) rfl <| .k rfl rfl <| .k rfl rfl <| .nil) (.a tab_succ.symm (by first | rfl | omega | (simp; done) | (simp; omega) | assumption) <| .nil) rfl)
    · intro h3
      replace h3 := Int.not_lt.1 (of_decide_eq_false h3)
      refine Tr.exit ?_
      refine Exs.thn ?_
      refine Exs.thn ?_
      refine Exs.here ?_
      exact End.cut (k) (by omega) (Ent.mk (.i rfl (by first | rfl | omega | (simp; done) | (simp; omega) | assumption) <| .o rfl (by first | rfl | omega | (simp; done) | (simp; omega) | assumption) rfl <| .k rfl rfl <| .k rfl rfl <| .nil) (.a (by first | rfl | omega | (simp; done) | (simp; omega) | assumption) (by first | rfl | omega | (simp; done) | (simp; omega) | assumption) <| .nil) rfl)
  · rintro _ rfl
    refine End.norm (S' := [⟨6, true, _, _⟩, ⟨5, true, _, _⟩, ⟨0, true, _, _⟩, ⟨1, true, _, _⟩]) (M' := [⟨5, _, _⟩]) rfl rfl ?_
    refine End.nxt ?_
    refine Tr.seq ?_
    refine Tr.rg ?_
    refine TrL.op (ok_move rfl (fun _ => rfl)) rfl rfl ?_
    refine TrL.op (ok_assign rfl (fun _ => rfl)) rfl rfl ?_
    refine TrL.fin ?_
    refine End.nxt ?_
    refine Tr.frz 5 [4] ⟨rfl, trivial⟩ (by simp only [lenMax]; omega) rfl ?_
    refine Tr.ret ?_
    exact Rts.res1 (fn := Tryd.f68) rfl (.r rfl (by first | rfl | omega | (simp; done) | (simp; omega) | assumption) <| .nil)

set_option maxRecDepth 100000 in
theorem ct_rTurn (o : Ori) (x : Int) (v : Valid o) (h0 : 0 ≤ x) (h1 : x < o.1.length) : Ct Tryd.prog 48 [kRd eTurn o, kI x] (kI (turnF o x)) := by
  have hv0 := v.pos
  have hv1 := v.len
  have hv2 := v.le
  have hl1 := invL_len o.1
  have hl2 := invL_len o.2
  have hl3 := vertL_len (o := o)
  have hl4 := vtx_le (o := o)
  have a1 := invR v (i := x.toNat) (by omega)
  have a2 := invU v (i := (nth (invL o.1) x.toNat).toNat) (by omega)
  have a3 := v.ri (i := (nth (invL o.2) (nth (invL o.1) x.toNat).toNat).toNat) (by omega)
  have a4 := v.ui (i := (nth o.1 (nth (invL o.2) (nth (invL o.1) x.toNat).toNat).toNat).toNat) (by omega)
  refine Ct.mk Tryd.func48 rfl Tryd.ntmps48 rfl (fun w J => ?_)
  refine Tr.seq ?_
  refine Tr.rg ?_
  refine TrL.new (ok_box 2 rfl (fun _ => rfl) rfl) rfl rfl rfl rfl ?_
  refine TrL.op (ok_assign rfl (fun _ => rfl)) rfl rfl ?_
  refine TrL.fin ?_
  refine End.nxt ?_
  refine Tr.seq ?_
  refine Tr.draw 15 mixed (by kernel_rfl) ?_
  refine RunD.op (ok_fldO rfl (fun _ => rfl)) rfl rfl ?_
  refine RunD.op (ok_ldB rfl (fun _ => rfl) rfl) rfl rfl ?_
  refine RunD.op (ok_fldO rfl (fun _ => rfl)) rfl rfl ?_
  refine RunD.op (ok_ldB rfl (fun _ => rfl) rfl) rfl rfl ?_
  refine RunD.op (ok_fldO rfl (fun _ => rfl)) rfl rfl ?_
  refine RunD.op (ok_ldB rfl (fun _ => rfl) rfl) rfl rfl ?_
  refine RunD.op (ok_fldO rfl (fun _ => rfl)) rfl rfl ?_
  refine RunD.op (ok_ldB rfl (fun _ => rfl) rfl) rfl rfl ?_
  refine RunD.op (ok_move rfl (fun _ => rfl)) rfl rfl ?_
  first | refine RunD.op (ok_idxN rfl (fun _ => rfl) rfl (fun _ => rfl) rfl (fun _ => by omega)) rfl rfl ?_ | refine RunD.op (ok_idxP rfl (fun _ => rfl) rfl (fun _ => rfl) rfl (fun _ => by omega)) rfl rfl ?_
  refine RunD.op (ok_ldP rfl (fun _ => rfl) rfl) rfl rfl ?_
  first | refine RunD.op (ok_idxN rfl (fun _ => rfl) rfl (fun _ => rfl) rfl (fun _ => by omega)) rfl rfl ?_ | refine RunD.op (ok_idxP rfl (fun _ => rfl) rfl (fun _ => rfl) rfl (fun _ => by omega)) rfl rfl ?_
  refine RunD.op (ok_ldP rfl (fun _ => rfl) rfl) rfl rfl ?_
  first | refine RunD.op (ok_idxN rfl (fun _ => rfl) rfl (fun _ => rfl) rfl (fun _ => by omega)) rfl rfl ?_ | refine RunD.op (ok_idxP rfl (fun _ => rfl) rfl (fun _ => rfl) rfl (fun _ => by omega)) rfl rfl ?_
  refine RunD.op (ok_ldP rfl (fun _ => rfl) rfl) rfl rfl ?_
  refine RunD.z ?_
  first | refine TrL.op (ok_idxN rfl (fun _ => rfl) rfl (fun _ => rfl) rfl (fun _ => by omega)) rfl rfl ?_ | refine TrL.op (ok_idxP rfl (fun _ => rfl) rfl (fun _ => rfl) rfl (fun _ => by omega)) rfl rfl ?_
  refine TrL.op (ok_ldP rfl (fun _ => rfl) rfl) rfl rfl ?_
  refine TrL.op (ok_assign rfl (fun _ => rfl)) rfl rfl ?_
  refine TrL.fin ?_
  refine End.nxt ?_
  refine Tr.ret ?_
  exact Rts.res1 (fn := Tryd.f48) rfl (.i rfl (by first | rfl | omega | (simp; done) | (simp; omega) | assumption) <| .nil)

set_option maxRecDepth 100000 in
theorem ct_rCheckChain (o : Ori) (c : List Int) (v : Valid o) : Ct Tryd.prog 16 [kRd eLand (landOf o), kRd (eL eI) c] (kI (chkC o.1.length c)) := by
  have hv2 := v.le
  refine Ct.mk Tryd.func16 rfl Tryd.ntmps16 rfl (fun w J => ?_)
  refine Tr.fact (s := 1) rfl (fun _ _ h => lenB h) (fun hb => ?_)
  refine Tr.seq ?_
  refine Tr.rg ?_
  refine TrL.new (ok_box 2 rfl (fun _ => rfl) rfl) rfl rfl rfl rfl ?_
  refine TrL.op (ok_assign rfl (fun _ => rfl)) rfl rfl ?_
  refine TrL.fin ?_
  refine End.nxt ?_
  refine Tr.seq ?_
  refine Tr.seq ?_
  refine Tr.rg ?_
  refine TrL.op (ok_move rfl (fun _ => rfl)) rfl rfl ?_
  refine TrL.op (ok_lenJ rfl (fun _ => rfl)) rfl rfl ?_
  refine TrL.op (ok_fldO rfl (fun _ => rfl)) rfl rfl ?_
  refine TrL.op (ok_ldB rfl (fun _ => rfl) rfl) rfl rfl ?_
  refine TrL.op (ok_mul rfl (fun _ => rfl) rfl (fun _ => rfl) (fun _ => by omega)) rfl rfl ?_
  refine TrL.op (ok_neq rfl (fun _ => rfl) rfl (fun _ => rfl)) rfl rfl ?_
  refine TrL.fin ?_
  refine End.nxt ?_
  refine Tr.cnd rfl ?_ ?_
  · intro h1
    replace h1 := of_decide_eq_true h1
    refine Tr.seq ?_
    refine Tr.rg ?_
    refine TrL.op (ok_assign rfl (fun _ => rfl)) rfl rfl ?_
    refine TrL.fin ?_
    refine End.nxt ?_
    refine Tr.ret ?_
    refine Rts.thn ?_
    exact Rts.res1 (fn := Tryd.f16) rfl (.i rfl (by unfold chkC; rw [if_pos (by omega)]) <| .nil)
  · intro h1
    replace h1 := Classical.not_not.1 (of_decide_eq_false h1)
    refine Tr.skip ?_
    refine End.nxt ?_
    refine Tr.seq ?_
    refine Tr.seq ?_
    refine Tr.rg ?_
    refine TrL.op (ok_assign rfl (fun _ => rfl)) rfl rfl ?_
    refine TrL.fin ?_
    refine End.nxt ?_
    refine Tr.for1 (σ := Nat) [⟨1, true, _, _⟩] [] (fun k => [⟨5, true, [], kI (k : Int)⟩]) (fun k => []) (fun k => k ≤ c.length ∧ ∀ i, i < k → outC (nth c i) = false) (fun k => ∀ i, i < c.length → outC (nth c i) = false) (fun k => c.length - k) (0) ⟨Nat.zero_le _, fun i h => absurd h (by omega)⟩ (Ent.mk (.i rfl (by first | rfl | omega | (simp; done) | (simp; omega) | assumption) <| .k rfl rfl <| .nil) (.nil) rfl) ?_ ?_
    · rintro k ⟨hk0, hR0⟩
      refine Tr.norm (S' := [⟨5, true, _, _⟩, ⟨1, true, _, _⟩]) (M' := []) rfl rfl ?_
      refine Tr.seq ?_
      refine Tr.seq ?_
      refine Tr.rg ?_
      refine TrL.op (ok_move rfl (fun _ => rfl)) rfl rfl ?_
      refine TrL.op (ok_move rfl (fun _ => rfl)) rfl rfl ?_
      refine TrL.op (ok_lenJ rfl (fun _ => rfl)) rfl rfl ?_
      refine TrL.op (ok_lss rfl (fun _ => rfl) rfl (fun _ => rfl)) rfl rfl ?_
      refine TrL.fin ?_
      refine End.nxt ?_
      refine Tr.cnd rfl ?_ ?_
      · intro h4
        replace h4 := of_decide_eq_true h4
        refine Tr.skip ?_
        refine End.nxt ?_
        refine Tr.seq ?_
        refine Tr.blk ?_
        refine Tr.seq ?_
        refine Tr.rg ?_
        refine TrL.op (ok_move rfl (fun _ => rfl)) rfl rfl ?_
        refine TrL.op (ok_move rfl (fun _ => rfl)) rfl rfl ?_
        first | refine TrL.op (ok_idxN rfl (fun _ => rfl) rfl (fun _ => rfl) rfl (fun _ => by omega)) rfl rfl ?_ | refine TrL.op (ok_idxP rfl (fun _ => rfl) rfl (fun _ => rfl) rfl (fun _ => by omega)) rfl rfl ?_
        refine TrL.op (ok_ldP rfl (fun _ => rfl) rfl) rfl rfl ?_
        refine TrL.op (ok_call (fun hp => ct_Within _ _ _) (.a rfl (fun _ => rfl) <| .a rfl (fun _ => rfl) <| .a rfl (fun _ => rfl) <| .nil)) rfl rfl ?_
        refine TrL.op (ok_not rfl (fun _ => rfl)) rfl rfl ?_
        refine TrL.fin ?_
        refine End.nxt ?_
        refine Tr.cnd rfl ?_ ?_
        · intro h6
          try simp only [decide_eq_false_iff_not, Bool.not_eq_true'] at h6
          refine Tr.seq ?_
          refine Tr.rg ?_
          refine TrL.op (ok_assign rfl (fun _ => rfl)) rfl rfl ?_
          refine TrL.fin ?_
          refine End.nxt ?_
          refine Tr.ret ?_
          refine Rts.out ?_
          refine Rts.thn ?_
          refine Rts.thn ?_
          refine Rts.out ?_
          refine Rts.thn ?_
          refine Rts.thn ?_
          exact Rts.res1 (fn := Tryd.f16) rfl (.i rfl (by unfold chkC rngC; rw [if_neg (by omega), if_pos (any_at (i := k) (by omega) (by rw [outC_within, decide_eq_false (by omega)]; rfl))]) <| .nil)
        · intro h6
          try simp only [decide_eq_true_eq, Bool.not_eq_false'] at h6
          refine Tr.skip ?_
          refine End.blk ?_
          refine End.nxt ?_
          refine Tr.rg ?_
          refine TrL.op (ok_move rfl (fun _ => rfl)) rfl rfl ?_
          refine TrL.op (ok_add rfl (fun _ => rfl) rfl (fun _ => rfl) (fun _ => by omega)) rfl rfl ?_
          refine TrL.op (ok_assign rfl (fun _ => rfl)) rfl rfl ?_
          refine TrL.fin ?_
          exact End.lp (k + 1) ⟨by omega, all_succ hR0 (by rw [outC_within, decide_eq_true h6]; rfl)⟩ (by omega) (Ent.mk (.i rfl (by first | rfl | omega | (simp; done) | (simp; omega) | assumption) <| .k rfl rfl <| .nil) (.nil) rfl)
      · intro h4
        replace h4 := Int.not_lt.1 (of_decide_eq_false h4)
        refine Tr.exit ?_
        refine Exs.thn ?_
        refine Exs.thn ?_
        refine Exs.here ?_
        exact End.cut (k) (fun i hi => hR0 i (by omega)) (Ent.mk (.i rfl (by first | rfl | omega | (simp; done) | (simp; omega) | assumption) <| .k rfl rfl <| .nil) (.nil) rfl)
    · intro k hE0
      refine End.norm (S' := [⟨5, true, _, _⟩, ⟨1, true, _, _⟩]) (M' := []) rfl rfl ?_
      refine End.nxt ?_
      refine Tr.seq ?_
      refine Tr.rg ?_
      refine TrL.op (ok_assign rfl (fun _ => rfl)) rfl rfl ?_
      refine TrL.fin ?_
      refine End.nxt ?_
      refine Tr.ret ?_
      exact Rts.res1 (fn := Tryd.f16) rfl (.i rfl (by unfold chkC rngC; rw [if_neg (by omega), if_neg (by rw [any_false_iff.2 hE0]; simp)]) <| .nil)

end Go.Fl

/- Permutations of 0 to n - 1, their cycles. Plain Lean, no program in sight. -/
namespace Go.Fl
open Go Go.RowKit
def ap (p : List Int) (x : Int) : Int := nth p x.toNat
def it (p : List Int) : Nat → Int → Int
  | 0, x => x
  | m + 1, x => ap p (it p m x)
theorem it_add {p : List Int} {b : Nat} {x : Int} : ∀ {a : Nat}, it p (a + b) x = it p a (it p b x)
  | 0 => by rw [Nat.zero_add]; rfl
  | a + 1 => by rw [Nat.succ_add]; show ap p _ = ap p _; rw [it_add]
theorem it_one {p : List Int} {x : Int} : it p 1 x = ap p x := rfl
theorem it_succ {p : List Int} {m : Nat} {x : Int} : it p (m + 1) x = ap p (it p m x) := rfl
theorem it_succ' {p : List Int} {m : Nat} {x : Int} : it p (m + 1) x = it p m (ap p x) := it_add
structure Perm (p : List Int) (n : Nat) : Prop where
  nd : p.Nodup
  rg : inR p n
  ln : p.length = n
def Sq (n : Nat) (x : Int) : Prop := 0 ≤ x ∧ x < n
theorem Sq.nat {n i : Nat} (h : i < n) : Sq n i := ⟨by omega, by omega⟩
section
variable {p : List Int} {n : Nat} (P : Perm p n)
include P
theorem Perm.aps {x : Int} (h : Sq n x) : Sq n (ap p x) := P.rg _ (by have := P.ln; have := h.1; have := h.2; omega)
theorem Perm.its {x : Int} (h : Sq n x) : ∀ m, Sq n (it p m x)
  | 0 => h
  | m + 1 => P.aps (Perm.its h m)
theorem Perm.inj {x y : Int} (hx : Sq n x) (hy : Sq n y) (e : Fl.ap p x = Fl.ap p y) : x = y := by
  have h1 := P.ln; have a := hx.1; have b := hx.2; have c := hy.1; have d := hy.2
  have := nodup_nth P.nd (i := x.toNat) (j := y.toNat) (by omega) (by omega) e
  omega
theorem Perm.itInj {x y : Int} (hx : Sq n x) (hy : Sq n y) : ∀ m, Fl.it p m x = Fl.it p m y → x = y
  | 0, e => e
  | m + 1, e => Perm.itInj hx hy m (P.inj (P.its hx m) (P.its hy m) e)
theorem Perm.onto {y : Int} (h : Sq n y) : ∃ x, Sq n x ∧ Fl.ap p x = y := by
  obtain ⟨i, hi, e⟩ := perm_mem P.nd P.rg P.ln h.1 h.2
  exact ⟨i, Sq.nat hi, by simpa [Fl.ap] using e⟩
theorem Perm.period {x : Int} (h : Sq n x) : ∃ L, 0 < L ∧ L ≤ n ∧ Fl.it p L x = x := by
  have hnot : ¬ (tab (n + 1) (fun i => Fl.it p i x)).Nodup := fun hn => by
    have := Good.len (n := n) (S := tab (n + 1) (fun i => Fl.it p i x)) ⟨hn, fun y hy => by
      obtain ⟨i, hi, rfl⟩ := mem_nth hy
      rw [tab_len] at hi
      rw [nth_tab hi]; exact P.its h i⟩
    rw [tab_len] at this; omega
  have hex : ∃ i j, i < j ∧ j ≤ n ∧ Fl.it p i x = Fl.it p j x := Classical.byContradiction fun hne => hnot (nodup_of_nth fun i j hi hj e => by
    rw [tab_len] at hi hj
    rw [nth_tab hi, nth_tab hj] at e
    rcases Nat.lt_trichotomy i j with h1 | h1 | h1
    · exact absurd ⟨i, j, h1, by omega, e⟩ hne
    · exact h1
    · exact absurd ⟨j, i, h1, by omega, e.symm⟩ hne)
  obtain ⟨i, j, hij, hj, e⟩ := hex
  refine ⟨j - i, by omega, by omega, ?_⟩
  rw [show j = i + (j - i) by omega, it_add] at e
  exact (P.itInj h (P.its h _) i e).symm
end
def perF (p : List Int) (x : Int) : Nat → Nat → Nat
  | 0, m => m
  | f + 1, m => if it p m x = x then m else perF p x f (m + 1)
def per (p : List Int) (x : Int) : Nat := perF p x p.length 1
theorem perF_spec {p : List Int} {x : Int} {L : Nat} (hL : it p L x = x) : ∀ {f m : Nat}, m ≤ L → L ≤ m + f → it p (perF p x f m) x = x ∧ m ≤ perF p x f m ∧ perF p x f m ≤ L ∧ ∀ q, m ≤ q → q < perF p x f m → it p q x ≠ x
  | 0, m, h1, h2 => by
    obtain rfl : m = L := by omega
    exact ⟨hL, Nat.le_refl _, Nat.le_refl _, fun q a b => by simp only [perF] at b; omega⟩
  | f + 1, m, h1, h2 => by
    unfold perF
    by_cases h : it p m x = x
    · rw [if_pos h]; exact ⟨h, Nat.le_refl _, h1, fun q a b => by omega⟩
    · rw [if_neg h]
      have hne : m ≠ L := fun e => h (e ▸ hL)
      obtain ⟨a, b, c, d⟩ := perF_spec hL (f := f) (m := m + 1) (by omega) (by omega)
      refine ⟨a, by omega, c, fun q hq hlt => ?_⟩
      by_cases e : q = m
      · subst e; exact h
      · exact d q (by omega) hlt
def orb (p : List Int) (x : Int) : List Int := tab (per p x) (fun i => it p i x)
theorem orb_len {p : List Int} {x : Int} : (orb p x).length = per p x := tab_len
theorem nth_orb {p : List Int} {x : Int} {i : Nat} (h : i < per p x) : nth (orb p x) i = it p i x := nth_tab h
section
variable {p : List Int} {n : Nat} (P : Perm p n) {x y z : Int} (h : Sq n x)
include P h
theorem Perm.pers : it p (per p x) x = x ∧ 0 < per p x ∧ per p x ≤ n ∧ ∀ q, 0 < q → q < per p x → it p q x ≠ x := by
  obtain ⟨L, h1, h2, h3⟩ := P.period h
  have hl := P.ln
  obtain ⟨a, b, c, d⟩ := perF_spec h3 (f := p.length) (m := 1) (by omega) (by omega)
  exact ⟨a, b, Nat.le_trans c h2, fun q hq => d q hq⟩
theorem Perm.it_mod (m : Nat) : it p m x = it p (m % Fl.per p x) x := by
  obtain ⟨a, b, _, _⟩ := P.pers h
  have : ∀ k r, it p (r + k * Fl.per p x) x = it p r x := by
    intro k
    induction k with
    | zero => intro r; rw [Nat.zero_mul]; rfl
    | succ k ih => intro r; rw [Nat.succ_mul, ← Nat.add_assoc, it_add, a, ih]
  have h2 := this (m / Fl.per p x) (m % Fl.per p x)
  rw [Nat.mul_comm, Nat.mod_add_div] at h2
  exact h2
theorem Perm.mem_orb : y ∈ orb p x ↔ ∃ m, y = it p m x := by
  constructor
  · intro hy
    obtain ⟨i, hi, rfl⟩ := mem_nth hy
    rw [orb_len] at hi
    exact ⟨i, nth_orb hi⟩
  · rintro ⟨m, rfl⟩
    rw [P.it_mod h]
    have := Nat.mod_lt m (P.pers h).2.1
    rw [← nth_orb this]
    exact nth_mem (by rw [orb_len]; exact this)
theorem Perm.orb_rng (hy : y ∈ orb p x) : Sq n y := by
  obtain ⟨m, rfl⟩ := (P.mem_orb h).1 hy
  exact P.its h m
theorem Perm.orb_self : x ∈ orb p x := (P.mem_orb h).2 ⟨0, rfl⟩
theorem Perm.orb_ap (hy : y ∈ orb p x) : ap p y ∈ orb p x := by
  obtain ⟨m, rfl⟩ := (P.mem_orb h).1 hy
  exact (P.mem_orb h).2 ⟨m + 1, rfl⟩
theorem Perm.orb_symm (hy : y ∈ orb p x) : x ∈ orb p y := by
  have hs := P.orb_rng h hy
  obtain ⟨m, rfl⟩ := (P.mem_orb h).1 hy
  refine (P.mem_orb hs).2 ⟨Fl.per p x - m % Fl.per p x, ?_⟩
  obtain ⟨a, b, _, _⟩ := P.pers h
  have := Nat.mod_lt m b
  rw [P.it_mod h m, ← it_add, Nat.sub_add_cancel (by omega), a]
theorem Perm.orb_trans (hy : y ∈ orb p x) (hz : z ∈ orb p y) : z ∈ orb p x := by
  have hs := P.orb_rng h hy
  obtain ⟨m, rfl⟩ := (P.mem_orb h).1 hy
  obtain ⟨q, rfl⟩ := (P.mem_orb hs).1 hz
  exact (P.mem_orb h).2 ⟨q + m, it_add.symm⟩
theorem Perm.orb_back (hy : Sq n y) (hp : ap p y ∈ orb p x) : y ∈ orb p x := by
  have h1 := P.orb_symm h hp
  have h2 : y ∈ orb p (ap p y) := P.orb_symm hy (P.orb_ap hy (P.orb_self hy))
  exact P.orb_trans h hp h2
theorem Perm.orb_nodup : (orb p x).Nodup := nodup_of_nth fun i j hi hj e => by
  rw [orb_len] at hi hj
  rw [nth_orb hi, nth_orb hj] at e
  obtain ⟨a, b, _, d⟩ := P.pers h
  rcases Nat.lt_trichotomy i j with h1 | h1 | h1
  · rw [show j = i + (j - i) by omega, it_add] at e
    exact absurd (P.itInj h (P.its h _) i e).symm (d (j - i) (by omega) (by omega))
  · exact h1
  · rw [show i = j + (i - j) by omega, it_add] at e
    exact absurd (P.itInj (P.its h _) h j e) (d (i - j) (by omega) (by omega))
/-- The way from x on, where nothing leads into what has been seen, is the whole orbit. -/
theorem Perm.walks {F : List Int} (hF : ∀ y, Sq n y → ap p y ∈ F → y ∈ F) (hx : x ∉ F) : Fl.walk p p.length F x = orb p x := by
  obtain ⟨a, b, c, d⟩ := P.pers h
  have hl := P.ln
  have hout : ∀ m, it p m x ∉ F := by
    intro m
    induction m with
    | zero => exact hx
    | succ m ih => exact fun hm => ih (hF _ (P.its h m) hm)
  have key : ∀ f i, i + f = Fl.per p x → Fl.walk p (p.length - i) (F ++ (orb p x).take i) (it p i x) = (orb p x).drop i := by
    intro f
    induction f with
    | zero =>
      intro i hi
      obtain rfl : i = Fl.per p x := by omega
      rw [List.take_of_length_le (by rw [orb_len]; exact Nat.le_refl _), List.drop_eq_nil_of_le (by rw [orb_len]; exact Nat.le_refl _), a]
      exact walk_stop (List.mem_append.2 (.inr (P.orb_self h)))
    | succ f ih =>
      intro i hi
      have hil : i < (orb p x).length := by rw [orb_len]; omega
      have hnew : it p i x ∉ F ++ (orb p x).take i := by
        intro hm
        rcases List.mem_append.1 hm with hm | hm
        · exact hout i hm
        · have hnd := (P.orb_nodup h).sublist (List.take_sublist (i + 1) _)
          rw [take_succ_nth hil, nth_orb (by omega)] at hnd
          exact (List.nodup_append.1 hnd).2.2 _ hm _ (by simp) rfl
      rw [show p.length - i = (p.length - (i + 1)) + 1 by omega, walk_step hnew, List.append_assoc, ← nth_orb (by omega), ← take_succ_nth hil, List.drop_eq_getElem_cons hil, ← ih (i + 1) (by omega)]
      congr 1
      · exact nth_of_get? (List.getElem?_eq_getElem hil)
      · rw [nth_orb (by omega)]; rfl
  have := key (Fl.per p x) 0 (by omega)
  rw [List.take_zero, List.append_nil, List.drop_zero] at this
  exact this
theorem Perm.orb_next {i : Nat} (hi : i < (orb p x).length) : ap p (nth (orb p x) i) = nth (orb p x) ((i + 1) % (orb p x).length) := by
  rw [orb_len] at hi ⊢
  have := Nat.mod_lt (i + 1) (P.pers h).2.1
  rw [nth_orb hi, nth_orb this, ← P.it_mod h (i + 1)]; rfl
end
/-- The least of its orbit. -/
def low (p : List Int) (i : Nat) : Bool := (orb p i).all fun y => decide ((i : Int) ≤ y)
section
variable {p : List Int} {n : Nat} (P : Perm p n)
include P
theorem Perm.low_iff {i : Nat} (h : i < n) : low p i = true ↔ ∀ j, j < i → (i : Int) ∉ orb p j := by
  unfold low
  rw [List.all_eq_true]
  constructor
  · intro hl j hj hm
    have hy := P.orb_symm (Sq.nat (by omega)) hm
    have := of_decide_eq_true (hl _ hy)
    omega
  · intro hl y hy
    refine decide_eq_true (Classical.byContradiction fun hlt => ?_)
    have hs := P.orb_rng (Sq.nat h) hy
    have := hs.1
    have h1 := P.orb_symm (Sq.nat h) hy
    refine hl y.toNat (by omega) ?_
    rwa [Int.toNat_of_nonneg hs.1]
theorem Perm.cycsP {k : Nat} (hk : k ≤ n) : (∀ x, x ∈ (cycs p k).flatten ↔ ∃ j, j < k ∧ x ∈ orb p j) ∧ Fl.cycs p k = ((List.range k).filter (low p)).map (fun i : Nat => orb p i) := by
  induction k with
  | zero => exact ⟨fun x => by simp [Fl.cycs], by simp [Fl.cycs]⟩
  | succ k ih =>
    obtain ⟨h1, h2⟩ := ih (by omega)
    have hs : Sq n k := Sq.nat (by omega)
    by_cases hm : (k : Int) ∈ (Fl.cycs p k).flatten
    · have hc := cycs_stop hm
      obtain ⟨j, hj, hjm⟩ := (h1 _).1 hm
      have hlow : low p k = false := by
        cases hb : low p k with
        | false => rfl
        | true => exact absurd hjm ((P.low_iff (by omega)).1 hb j hj)
      rw [hc]
      refine ⟨fun x => ?_, by rw [List.range_succ, List.filter_append, h2]; simp [hlow]⟩
      rw [h1]
      refine ⟨fun ⟨q, hq, hx⟩ => ⟨q, by omega, hx⟩, fun ⟨q, hq, hx⟩ => ?_⟩
      by_cases e : q = k
      · subst e; exact ⟨j, hj, P.orb_trans (Sq.nat (by omega)) hjm hx⟩
      · exact ⟨q, by omega, hx⟩
    · have hw : Fl.walk p p.length (Fl.cycs p k).flatten k = orb p k := P.walks hs (fun y hy hm' => by
        obtain ⟨j, hj, hjm⟩ := (h1 _).1 hm'
        exact (h1 _).2 ⟨j, hj, P.orb_back (Sq.nat (by omega)) hy hjm⟩) hm
      have hlow : low p k = true := (P.low_iff (by omega)).2 fun j hj hjm => hm ((h1 _).2 ⟨j, hj, hjm⟩)
      have hne : (orb p (k : Int)).length ≠ 0 := by rw [orb_len]; have := (P.pers hs).2.1; omega
      rw [Fl.cycs, hw, addC_cons hne]
      refine ⟨fun x => ?_, by rw [List.range_succ, List.filter_append, h2]; simp [hlow]⟩
      rw [List.flatten_append, List.mem_append, h1]
      simp only [List.flatten_cons, List.flatten_nil, List.append_nil]
      constructor
      · rintro (⟨q, hq, hx⟩ | hx)
        · exact ⟨q, by omega, hx⟩
        · exact ⟨k, by omega, hx⟩
      · rintro ⟨q, hq, hx⟩
        by_cases e : q = k
        · subst e; exact .inr hx
        · exact .inl ⟨q, by omega, hx⟩
theorem Perm.cycs_low {k : Nat} (hk : k < n) : (k : Int) ∈ (Fl.cycs p k).flatten ↔ low p k = false := by
  rw [(P.cycsP (by omega)).1]
  cases hb : low p k with
  | false =>
    simp only [iff_true]
    refine Classical.byContradiction fun hne => ?_
    have := (P.low_iff hk).2 fun j hj hm => hne ⟨j, hj, hm⟩
    rw [hb] at this; cases this
  | true => exact ⟨fun ⟨j, hj, hm⟩ => absurd hm ((P.low_iff hk).1 hb j hj), fun h => by cases h⟩
theorem Perm.cycs_next {k : Nat} (hk : k < n) (hl : low p k = true) : Fl.cycs p (k + 1) = Fl.cycs p k ++ [orb p k] := by
  rw [(P.cycsP (by omega)).2, (P.cycsP (by omega)).2, List.range_succ, List.filter_append]
  simp [hl]
theorem Perm.cycs_same {k : Nat} (hk : k < n) (hl : low p k = false) : Fl.cycs p (k + 1) = Fl.cycs p k := by
  rw [(P.cycsP (by omega)).2, (P.cycsP (by omega)).2, List.range_succ, List.filter_append]
  simp [hl]
/-- Every cycle is an orbit. -/
theorem Perm.cycs_mem {k : Nat} (hk : k ≤ n) {c : List Int} (hc : c ∈ Fl.cycs p k) : ∃ j : Nat, j < k ∧ low p j = true ∧ c = orb p j := by
  rw [(P.cycsP hk).2] at hc
  obtain ⟨j, hj, rfl⟩ := List.mem_map.1 hc
  have := List.mem_filter.1 hj
  exact ⟨j, List.mem_range.1 this.1, this.2, rfl⟩
end
theorem Valid.pR {o : Ori} (v : Valid o) : Perm o.1 o.1.length := ⟨v.nR, v.rR, rfl⟩
theorem Valid.pU {o : Ori} (v : Valid o) : Perm o.2 o.1.length := ⟨v.nU, v.rU, v.len⟩
theorem Perm.inv {p : List Int} {n : Nat} (P : Perm p n) : Perm (invL p) n := ⟨invL_nodup P.nd P.rg P.ln, by have := invL_rng p; rwa [P.ln] at this, by rw [invL_len]; exact P.ln⟩
theorem comm_eq {o : Ori} (_ : Valid o) : comm o = thenL (thenL (thenL (invL o.1) (invL o.2)) o.1) o.2 := by
  refine ext_nth (by rw [comm_len, thenL_len, thenL_len, thenL_len, invL_len]) fun i hi => ?_
  rw [comm_len] at hi
  have h := comm_at (o := o) (x := i) (by omega) (by omega)
  simp only [Int.toNat_natCast] at h
  have h1 := invL_len o.1
  rw [h, thenL, nth_tab (by rw [thenL_len, thenL_len]; omega), thenL, nth_tab (by rw [thenL_len]; omega), thenL, nth_tab (by omega)]
theorem Perm.then {p q : List Int} {n : Nat} (P : Perm p n) (Q : Perm q n) : Perm (thenL p q) n := ⟨thenL_nodup P.nd P.rg Q.nd Q.ln, thenL_rng P.rg Q.rg Q.ln, by rw [thenL_len]; exact P.ln⟩
theorem Valid.pC {o : Ori} (v : Valid o) : Perm (comm o) o.1.length := by
  rw [comm_eq v]; exact ((v.pR.inv.then v.pU.inv).then v.pR).then v.pU
end Go.Fl

/- The reference of chapter 8: boundaries, intersection numbers. Plain Lean, no program in sight. -/
namespace Go.Fl
open Go Go.RowKit
theorem tab_sub {n : Nat} {F : Nat → Int} {i : Int} {x y : Int} (h0 : 0 ≤ i) (hi : i < n) (hx : W x = W (nth (tab n (fun j => W (F j))) i.toNat - y)) : (tab n (fun j => W (F j))).set i.toNat (W x) = tab n (fun j => W (F j - if (j : Int) = i then y else 0)) := by
  rw [tab_add h0 hi (y := -y) hx]
  refine tab_congr fun j hj => congrArg W ?_
  split <;> omega
def rbS (o : Ori) (c : List Int) (k : Nat) (j : Nat) : Int := sumTo (fun i : Nat => (if (j : Int) = nth (vertL o) (nth o.1 i).toNat then nth c i else 0) - (if (j : Int) = nth (vertL o) i then nth c i else 0) + (if (j : Int) = nth (vertL o) (nth o.2 i).toNat then nth c ((o.1.length : Int) + i).toNat else 0) - (if (j : Int) = nth (vertL o) i then nth c ((o.1.length : Int) + i).toNat else 0)) k
def rbT (o : Ori) (c : List Int) (k : Nat) : List Int := tab (vtx o).length (fun j => W (rbS o c k j))
theorem rbT_zero {o : Ori} {c : List Int} : List.replicate (vtx o).length 0 = rbT o c 0 := by rw [tab_rep]; rfl
theorem rbT_succ {o : Ori} (v : Valid o) {c : List Int} {k : Nat} (hk : k < o.1.length) {E1 E2 E3 E4 : List Int} {x1 x2 x3 x4 : Int}
    (e1 : E1 = (rbT o c k).set (nth (vertL o) (nth o.1 k).toNat).toNat x1) (h1 : x1 = W (nth (rbT o c k) (nth (vertL o) (nth o.1 k).toNat).toNat + nth c k))
    (e2 : E2 = E1.set (nth (vertL o) k).toNat x2) (h2 : x2 = W (nth E1 (nth (vertL o) k).toNat - nth c k))
    (e3 : E3 = E2.set (nth (vertL o) (nth o.2 k).toNat).toNat x3) (h3 : x3 = W (nth E2 (nth (vertL o) (nth o.2 k).toNat).toNat + nth c ((o.1.length : Int) + k).toNat))
    (e4 : E4 = E3.set (nth (vertL o) k).toNat x4) (h4 : x4 = W (nth E3 (nth (vertL o) k).toNat - nth c ((o.1.length : Int) + k).toNat)) : E4 = rbT o c (k + 1) := by
  have a1 := v.ri hk
  have a2 := v.ui hk
  have b0 := vertL_rng v hk
  have b1 := vertL_rng v (i := (nth o.1 k).toNat) (by omega)
  have b2 := vertL_rng v (i := (nth o.2 k).toNat) (by omega)
  rw [h1, rbT, tab_add b1.1 b1.2 rfl] at e1
  subst e1
  rw [h2, tab_sub b0.1 b0.2 rfl] at e2
  subst e2
  rw [h3, tab_add b2.1 b2.2 rfl] at e3
  subst e3
  rw [h4, tab_sub b0.1 b0.2 rfl] at e4
  subst e4
  refine tab_congr fun j hj => congrArg W ?_
  rw [rbS, rbS, sumTo_succ]; omega
theorem rbT_all {o : Ori} (_ : Valid o) {c : List Int} (hc : c.length = 2 * o.1.length) : rbT o c o.1.length = bndW o c := by
  refine tab_congr fun j hj => congrArg W ?_
  rw [bndS, hc, show 2 * o.1.length = o.1.length + o.1.length by omega, sumTo_append, ← sumTo_add]
  refine sumTo_congr fun i hi => ?_
  have e1 : endT o (i : Nat) = nth (vertL o) (nth o.1 i).toNat := by unfold endT; rw [if_pos (by omega)]; simp
  have e2 : endF o (i : Nat) = nth (vertL o) i := by unfold endF; rw [if_pos (by omega)]; simp
  have e3 : endT o ((o.1.length + i : Nat) : Int) = nth (vertL o) (nth o.2 i).toNat := by unfold endT; rw [if_neg (by omega), show (((o.1.length + i : Nat) : Int) - o.1.length).toNat = i by omega]
  have e4 : endF o ((o.1.length + i : Nat) : Int) = nth (vertL o) i := by unfold endF; rw [if_neg (by omega), show (((o.1.length + i : Nat) : Int) - o.1.length).toNat = i by omega]
  rw [e1, e2, e3, e4, show ((o.1.length : Int) + i).toNat = o.1.length + i by omega]
  omega
/-! ### Intersection numbers -/
theorem is1_ref {o : Ori} {a b : List Int} {k : Nat} : W (W (W (is1 o a b k) - W (nth b k * nth a ((o.1.length : Int) + nth o.1 k).toNat)) + W (nth b ((o.1.length : Int) + k).toNat * nth a (nth o.2 k).toNat)) = W (is1 o a b (k + 1)) := by
  simp only [W_add_l, W_add_r, W_sub_l, W_sub_r]
  refine congrArg W ?_
  rw [is1, is1, sumTo_succ]; omega
theorem excT_ref {o : Ori} (v : Valid o) {b : List Int} {k : Nat} (hk : k < o.1.length) {E1 E2 E3 E4 : List Int} {x1 x2 x3 x4 : Int}
    (e1 : E1 = (excT o b k).set (nth o.1 k).toNat x1) (h1 : x1 = W (nth (excT o b k) (nth o.1 k).toNat + nth b k))
    (e2 : E2 = E1.set k x2) (h2 : x2 = W (nth E1 k - nth b k))
    (e3 : E3 = E2.set (nth o.2 k).toNat x3) (h3 : x3 = W (nth E2 (nth o.2 k).toNat + nth b ((o.1.length : Int) + k).toNat))
    (e4 : E4 = E3.set k x4) (h4 : x4 = W (nth E3 k - nth b ((o.1.length : Int) + k).toNat)) : E4 = excT o b (k + 1) := by
  have a1 := v.ri hk
  have a2 := v.ui hk
  have hk' : k = ((k : Nat) : Int).toNat := by simp
  rw [h1, excT, tab_add a1.1 a1.2 rfl] at e1
  subst e1
  rw [h2, hk', tab_sub (i := ((k : Nat) : Int)) (by omega) (by omega) rfl] at e2
  subst e2
  rw [h3, ← hk', tab_add a2.1 a2.2 rfl] at e3
  subst e3
  rw [h4, hk', tab_sub (i := ((k : Nat) : Int)) (by omega) (by omega) rfl] at e4
  subst e4
  refine tab_congr fun j hj => congrArg W ?_
  rw [excS, excS, sumTo_succ, ← hk']
  by_cases e : j = k
  · subst e; simp only [if_pos]; omega
  · have e' : ¬ (j : Int) = ((k : Nat) : Int) := by omega
    simp only [if_neg e, if_neg e']; omega
theorem idx_first {x : Int} : ∀ {l : List Int} {i : Nat}, i < l.idxOf x → i < l.length → nth l i ≠ x
  | [], i, _, h => by simp at h
  | a :: r, i, h, hl => by
    rw [List.idxOf_cons] at h
    cases hb : (a == x) with
    | true => rw [hb] at h; simp at h
    | false =>
      rw [hb] at h
      simp only [cond_false] at h
      cases i with
      | zero => show a ≠ x; simpa using hb
      | succ i => exact idx_first (l := r) (by omega) (by simpa using hl)
theorem turnF_comm {o : Ori} {x : Int} (h0 : 0 ≤ x) (h1 : x < o.1.length) : turnF o x = ap (comm o) x := (comm_at h0 h1).symm
theorem vtx_pre {o : Ori} (v : Valid o) : ∀ {k m : Nat}, m < (cycs (comm o) k).length → k ≤ o.1.length → nth (vtx o) m = nth (cycs (comm o) k) m := by
  intro k m hm hk
  have P := v.pC
  have : ∀ f k, k + f = o.1.length → m < (cycs (comm o) k).length → nth (vtx o) m = nth (cycs (comm o) k) m := by
    intro f
    induction f with
    | zero => intro k hk _; rw [vtx, ← hk]; rfl
    | succ f ih =>
      intro k hk hm
      have hlt : k < o.1.length := by omega
      cases hl : low (comm o) k with
      | true =>
        have e := P.cycs_next hlt hl
        rw [ih (k + 1) (by omega) (by rw [e, List.length_append]; omega), e, nth_app_l hm]
      | false =>
        have e := P.cycs_same hlt hl
        rw [ih (k + 1) (by omega) (by rw [e]; exact hm), e]
  exact this (o.1.length - k) k (by omega) hm
theorem vtx_at {o : Ori} (v : Valid o) {k : Nat} (hk : k < o.1.length) (hl : low (comm o) k = true) : nth (vtx o) (cycs (comm o) k).length = orb (comm o) k := by
  have P := v.pC
  have e := P.cycs_next hk hl
  rw [vtx_pre v (k := k + 1) (by rw [e, List.length_append]; simp) (by omega), e, nth_app_r (Nat.le_refl _) (by simp), Nat.sub_self]
  rfl
theorem vert_of {o : Ori} (v : Valid o) {m : Nat} (hm : m < (vtx o).length) {x : Int} (hx : x ∈ nth (vtx o) m) : nth (vertL o) x.toNat = m := by
  have hg := vtx_good v
  have hall : ∀ k, k ≤ (vtx o).length → ∀ j, j < k → ∀ y ∈ nth (vtx o) j, nth (vertTo (vtx o) o.1.length k) y.toNat = j := by
    intro k
    induction k with
    | zero => intro _ j hj; omega
    | succ k ih =>
      intro hk j hj y hy
      have hyf : y ∈ (vtx o).flatten := List.mem_flatten.2 ⟨_, nth_mem (by omega), hy⟩
      have hyr := hg.rng y hyf
      rw [vertTo, nth_setC (fun z hz => (hg.rng z (List.mem_flatten.2 ⟨_, nth_mem (by omega), hz⟩)).1) (by rw [vertTo_len]; omega), show ((y.toNat : Nat) : Int) = y by omega]
      by_cases hk' : y ∈ nth (vtx o) k
      · rw [if_pos hk']
        by_cases e : j = k
        · rw [e]
        · exfalso
          have hnd := hg.nodup
          rw [List.nodup_iff_pairwise_ne, List.pairwise_flatten] at hnd
          have h2 := List.pairwise_iff_getElem.1 hnd.2 j k (by omega) (by omega) (by omega)
          have ej : (vtx o)[j]'(by omega) = nth (vtx o) j := (nth_of_get? (List.getElem?_eq_getElem _)).symm
          have ek : (vtx o)[k]'(by omega) = nth (vtx o) k := (nth_of_get? (List.getElem?_eq_getElem _)).symm
          rw [ej, ek] at h2
          exact h2 _ hy _ hk' rfl
      · rw [if_neg hk']
        have hj' : j ≠ k := fun e => hk' (e ▸ hy)
        exact ih (by omega) j (by omega) y hy
  exact hall _ (Nat.le_refl _) m hm x hx
theorem vert_eq {o : Ori} (v : Valid o) {x y : Int} (hx : Sq o.1.length x) (hy : Sq o.1.length y) : nth (vertL o) x.toNat = nth (vertL o) y.toNat ↔ y ∈ orb (comm o) x := by
  have P := v.pC
  have hin : ∀ z, Sq o.1.length z → ∃ m j, m < (vtx o).length ∧ nth (vtx o) m = orb (comm o) (j : Nat) ∧ j < o.1.length ∧ z ∈ orb (comm o) (j : Nat) := fun z hz => by
    have := vtx_all v (i := z.toNat) (by have := hz.1; have := hz.2; omega)
    rw [Int.toNat_of_nonneg hz.1] at this
    obtain ⟨c, hc, hzc⟩ := List.mem_flatten.1 this
    obtain ⟨j, hj, _, e⟩ := P.cycs_mem (Nat.le_refl _) hc
    obtain ⟨m, hm, rfl⟩ := List.getElem_of_mem hc
    have e' : (vtx o)[m]'hm = nth (vtx o) m := (nth_of_get? (List.getElem?_eq_getElem hm)).symm
    exact ⟨m, j, hm, e' ▸ e, hj, e ▸ hzc⟩
  obtain ⟨m, j, hm, e, hj, hxm⟩ := hin x hx
  have h1 := vert_of v hm (x := x) (by rw [e]; exact hxm)
  constructor
  · intro h
    obtain ⟨m', j', hm', e', hj', hym⟩ := hin y hy
    have h2 := vert_of v hm' (x := y) (by rw [e']; exact hym)
    have : m = m' := by omega
    subst this
    exact P.orb_trans hx (P.orb_symm (Sq.nat hj) hxm) (by rw [← e, e']; exact hym)
  · intro h
    rw [h1, vert_of v hm (x := y) (by rw [e]; exact P.orb_trans (Sq.nat hj) hxm h)]
theorem first_low {o : Ori} (v : Valid o) {k : Nat} (hk : k < o.1.length) : atL (vertL o) (nth (vertL o) k) = k ↔ low (comm o) k = true := by
  have P := v.pC
  rw [P.low_iff hk]
  have hm : nth (vertL o) k ∈ vertL o := nth_mem (by rw [vertL_len]; exact hk)
  constructor
  · intro h j hj hmem
    have := (vert_eq v (x := j) (y := k) (Sq.nat (by omega)) (Sq.nat hk)).2 hmem
    simp only [Int.toNat_natCast] at this
    unfold atL at h
    rw [if_pos hm] at h
    exact idx_first (l := vertL o) (x := nth (vertL o) k) (i := j) (by omega) (by rw [vertL_len]; omega) this
  · intro h
    refine (atL_at (k := k) (by rw [vertL_len]; exact hk) (fun i hi e => ?_) rfl).symm
    refine h i hi ?_
    exact (vert_eq v (x := i) (y := k) (Sq.nat (by omega)) (Sq.nat hk)).1 (by simpa using e)
end Go.Fl

/- The reference of chapter 8: letters, words. Plain Lean, no program in sight. -/
namespace Go.Fl
open Go Go.RowKit
theorem tmod_neg {n m : Int} (hm : 0 < m) (h : n.tmod m < 0) : n.tmod m + m = n % m := by
  have h1 := Int.tmod_eq_emod (a := n) (b := m)
  have h2 := Int.emod_nonneg n (show m ≠ 0 by omega)
  have h3 := Int.emod_lt_of_pos n hm
  split at h1 <;> omega
theorem tmod_pos {n m : Int} (hm : 0 < m) (h : 0 ≤ n.tmod m) : n.tmod m = n % m := by
  have h1 := Int.tmod_eq_emod (a := n) (b := m)
  have h2 := Int.emod_nonneg n (show m ≠ 0 by omega)
  have h3 := Int.emod_lt_of_pos n hm
  split at h1 <;> omega
theorem tmod_lt {n m : Int} (hm : 0 < m) : -m < n.tmod m ∧ n.tmod m < m := by
  have h1 := Int.tmod_eq_emod (a := n) (b := m)
  have h2 := Int.emod_nonneg n (show m ≠ 0 by omega)
  have h3 := Int.emod_lt_of_pos n hm
  split at h1 <;> omega
theorem isT_next {o : Ori} (v : Valid o) {a b : List Int} {k : Nat} (hk : k < o.1.length) (hl : low (comm o) k = true) {s : Int} : W (s + isT o a b (cycs (comm o) k).length + is2 o a b (orb (comm o) k) (orb (comm o) k).length) = W (s + isT o a b (cycs (comm o) (k + 1)).length) := by
  rw [v.pC.cycs_next hk hl, List.length_append, List.length_singleton, isT, isT, sumTo_succ, vtx_at v hk hl, Int.add_assoc]
theorem orb_back0 {p : List Int} {n : Nat} (P : Perm p n) {x : Int} (h : Sq n x) {m : Nat} (hm : m < (orb p x).length) : ap p (nth (orb p x) m) = x ↔ m + 1 = (orb p x).length := by
  have hl := (P.pers h).2.1
  rw [P.orb_next h hm]
  have h0 : nth (orb p x) 0 = x := nth_orb hl
  rw [orb_len] at hm ⊢
  rcases Nat.lt_or_ge (m + 1) (per p x) with h1 | h1
  · rw [Nat.mod_eq_of_lt h1]
    refine ⟨fun e => ?_, fun e => by omega⟩
    have := nodup_nth (P.orb_nodup h) (i := m + 1) (j := 0) (by rw [orb_len]; exact h1) (by rw [orb_len]; exact hl) (by rw [e, h0])
    omega
  · rw [show m + 1 = per p x by omega, Nat.mod_self]
    exact ⟨fun _ => rfl, fun _ => h0⟩
theorem letK_two {o : Ori} (v : Valid o) {x : Int} {c : List Int} {k : Nat} (hk : k < o.1.length) (hT : lT x = 0) {E1 E2 : List Int} {a b : Int}
    (h1 : E1 = (letK x o c k).set (bE x o k).toNat a) (ha : a = W (nth (letK x o c k) (bE x o k).toNat + W (bS x * nth c k)))
    (h2 : E2 = E1.set (lE x o k).toNat b) (hb : b = W (nth E1 (lE x o k).toNat + W (lS x * nth c ((o.1.length : Int) + k).toNat))) : E2 = letK x o c (k + 1) := by
  have r1 := bE_rng v (x := x) (i := k) (by omega) (by omega)
  have r2 := lE_rng v (x := x) (i := k) (by omega) (by omega)
  rw [letK, tab_addW r1.1 (by omega) ha] at h1
  subst h1
  rw [tab_addW r2.1 (by omega) hb] at h2
  rw [h2, letK]
  refine tab_congr fun j hj => congrArg W ?_
  rw [letT, letT, sumTo_succ, hT]
  simp only [Int.zero_mul, ite_self]; omega
theorem W_one {a b : Int} : W (a + b) = W (a + W (1 * b)) := by rw [Int.one_mul, W_add_r]
theorem W_mone {a b : Int} : W (a - b) = W (a + W (-1 * b)) := by rw [Int.neg_one_mul, W_add_r]; rfl
theorem isLet_cases {x : Int} (h : isLet x = true) : x = 84 ∨ x = 116 ∨ x = 83 ∨ x = 115 := by
  have := of_decide_eq_true h; omega
theorem all_drop {ws : List Int} (h : ws.all isLet = true) {j : Nat} (hj : j < ws.length) : isLet (nth ws j) = true := List.all_eq_true.1 h _ (nth_mem hj)
theorem chkW_zero {ws : List Int} (h : chkW ws = 0) : ws.length ≤ 20 ∧ ws.all isLet = true := by
  unfold chkW at h
  by_cases h1 : 20 < ws.length
  · rw [if_pos h1] at h; cases h
  · rw [if_neg h1] at h
    by_cases h2 : ws.all isLet = true
    · exact ⟨by omega, h2⟩
    · rw [if_neg h2] at h; cases h
end Go.Fl
