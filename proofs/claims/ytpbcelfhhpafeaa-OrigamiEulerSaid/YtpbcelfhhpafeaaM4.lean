/- Laws on walking typed knowledge through code, and contracts. -/
import Derived.Test.YtpbcelfhhpafeaaM3
import Derived.Laws.StructEq
import Derived.OrdersHeld

/- Contracts: the reference: components, errors, directions, strata. -/
namespace Go.Fl
open Go Go.Proofs


theorem tmod_lt {n m : Int} (hm : 0 < m) : -m < n.tmod m ∧ n.tmod m < m := by
  have := tmod_facts n (b := m) (by omega); omega
set_option maxRecDepth 100000 in
theorem ct_rComponent (o : Ori) (s : Int) (v : Valid o) (hs : Sq o.1.length s) : Ct Try.prog 83 [kRd eO o, kI s] (kRd (eL eI) (compL o s)) := by
  have hv0 := v.pos
  have hv1 := v.len
  have hv2 := v.le
  have hs0 := hs.1
  have hs1 := hs.2
  refine Ct.mk Try.func83 rfl Try.ntmps83 rfl (fun w J => ?_)
  refine Tr.seq ?_
  refine Tr.rg ?_
  refine TrL.new (ok_box 2 rfl (fun _ => rfl) rfl) rfl rfl rfl rfl ?_
  refine TrL.op (ok_assign rfl (fun _ => rfl)) rfl rfl ?_
  refine TrL.fin ?_
  refine End.nxt ?_
  refine Tr.seq ?_
  refine Tr.rg ?_
  refine TrL.op (ok_ldBS rfl (fun _ => rfl)) rfl rfl ?_
  refine TrL.op (ok_call (fun hp => ct_rSize _) (.s rfl (fun _ => rfl) rfl <| .nil)) rfl rfl ?_
  refine TrL.new (ok_makeN eBool 12 rfl (fun _ => rfl) rfl (fun _ => rfl) rfl rfl rfl (fun _ => by omega)) rfl rfl rfl rfl ?_
  refine TrL.op (ok_assign rfl (fun _ => rfl)) rfl rfl ?_
  refine TrL.fin ?_
  refine End.nxt ?_
  refine Tr.seq ?_
  refine Tr.rg ?_
  refine TrL.op (ok_move rfl (fun _ => rfl)) rfl rfl ?_
  refine TrL.op (ok_move rfl (fun _ => rfl)) rfl rfl ?_
  first | refine TrL.op (ok_idxEN rfl (fun _ => rfl) rfl (fun _ => rfl) (fun _ => by omega)) rfl rfl ?_ | refine TrL.op (ok_idxE rfl (fun _ => rfl) rfl (fun _ => rfl) (fun _ => by omega)) rfl rfl ?_
  refine TrL.stE rfl rfl rfl rfl rfl ?_
  refine TrL.fin ?_
  refine End.nxt ?_
  refine Tr.seq ?_
  refine Tr.seq ?_
  refine Tr.rg ?_
  refine TrL.op (ok_assign rfl (fun _ => rfl)) rfl rfl ?_
  refine TrL.fin ?_
  refine End.nxt ?_
  refine Tr.for1 (σ := Nat × List Int) [⟨2, true, _, _⟩, ⟨5, true, _, _⟩] [⟨2, _, _⟩] (fun (r, U) => [⟨6, true, [], kI (r : Int)⟩]) (fun (r, U) => [⟨12, [], cArr false 4 eBool (seenB o.1.length U) o.1.length⟩]) (fun (r, U) => r ≤ o.1.length ∧ RoSt o s U r) (fun (r, U) => r = o.1.length ∧ RoSt o s U r) (fun (r, U) => o.1.length - r) ((0, [s])) ⟨Nat.zero_le _, RoSt.start⟩ (Ent.mk (.i rfl (by first | rfl | omega | (simp; done) | (simp; omega) | assumption) <| .k rfl rfl <| .k rfl rfl <| .nil) (.a (by rw [seenB_nil]; exact seenB_set (S := []) hs.1) (by first | rfl | omega | (simp; done) | (simp; omega) | assumption) <| .k rfl <| .nil) rfl) ?_ ?_
  · rintro ⟨r, U⟩ ⟨hr, hro⟩
    refine Tr.norm (S' := [⟨6, true, _, _⟩, ⟨2, true, _, _⟩, ⟨5, true, _, _⟩]) (M' := [⟨12, _, _⟩, ⟨2, _, _⟩]) rfl rfl ?_
    refine Tr.seq ?_
    refine Tr.seq ?_
    refine Tr.rg ?_
    refine TrL.op (ok_move rfl (fun _ => rfl)) rfl rfl ?_
    refine TrL.op (ok_ldBS rfl (fun _ => rfl)) rfl rfl ?_
    refine TrL.op (ok_call (fun hp => ct_rSize _) (.s rfl (fun _ => rfl) rfl <| .nil)) rfl rfl ?_
    refine TrL.op (ok_lss rfl (fun _ => rfl) rfl (fun _ => rfl)) rfl rfl ?_
    refine TrL.fin ?_
    refine End.nxt ?_
    refine Tr.cnd rfl ?_ ?_
    · intro h4
      replace h4 := of_decide_eq_true h4
      refine Tr.skip ?_
      refine End.nxt ?_
      refine Tr.seq ?_
      refine Tr.blk ?_
      refine Tr.seq ?_
      refine Tr.rg ?_
      refine TrL.op (ok_assign rfl (fun _ => rfl)) rfl rfl ?_
      refine TrL.fin ?_
      refine End.nxt ?_
      refine Tr.for1 (σ := Nat × List Int) [⟨2, true, _, _⟩, ⟨5, true, _, _⟩, ⟨6, true, _, _⟩] [⟨2, _, _⟩] (fun (x, T) => [⟨7, true, [], kI (x : Int)⟩]) (fun (x, T) => [⟨12, [], cArr false 4 eBool (seenB o.1.length T) o.1.length⟩]) (fun (x, T) => x ≤ o.1.length ∧ RnSt o s U T x) (fun (x, T) => RnSt o s U T o.1.length) (fun (x, T) => o.1.length - x) ((0, U)) ⟨Nat.zero_le _, RnSt.start hro.rch⟩ (Ent.mk (.i rfl (by first | rfl | omega | (simp; done) | (simp; omega) | assumption) <| .k rfl rfl <| .k rfl rfl <| .k rfl rfl <| .nil) (.a (by first | rfl | omega | (simp; done) | (simp; omega) | assumption) (by first | rfl | omega | (simp; done) | (simp; omega) | assumption) <| .k rfl <| .nil) rfl) ?_ ?_
      · rintro ⟨x, T⟩ ⟨hx, hrn⟩
        refine Tr.norm (S' := [⟨7, true, _, _⟩, ⟨2, true, _, _⟩, ⟨5, true, _, _⟩, ⟨6, true, _, _⟩]) (M' := [⟨12, _, _⟩, ⟨2, _, _⟩]) rfl rfl ?_
        refine Tr.seq ?_
        refine Tr.seq ?_
        refine Tr.rg ?_
        refine TrL.op (ok_move rfl (fun _ => rfl)) rfl rfl ?_
        refine TrL.op (ok_ldBS rfl (fun _ => rfl)) rfl rfl ?_
        refine TrL.op (ok_call (fun hp => ct_rSize _) (.s rfl (fun _ => rfl) rfl <| .nil)) rfl rfl ?_
        refine TrL.op (ok_lss rfl (fun _ => rfl) rfl (fun _ => rfl)) rfl rfl ?_
        refine TrL.fin ?_
        refine End.nxt ?_
        refine Tr.cnd rfl ?_ ?_
        · intro h7
          replace h7 := of_decide_eq_true h7
          have hsx := nth_seenB (S := T) (show x < o.1.length by omega)
          have a1 := v.ri (i := x) (by omega)
          have a2 := v.ui (i := x) (by omega)
          refine Tr.skip ?_
          refine End.nxt ?_
          refine Tr.seq ?_
          refine Tr.blk ?_
          refine Tr.seq ?_
          refine Tr.rg ?_
          refine TrL.op (ok_move rfl (fun _ => rfl)) rfl rfl ?_
          refine TrL.op (ok_move rfl (fun _ => rfl)) rfl rfl ?_
          first | refine TrL.op (ok_idxEN rfl (fun _ => rfl) rfl (fun _ => rfl) (fun _ => by omega)) rfl rfl ?_ | refine TrL.op (ok_idxE rfl (fun _ => rfl) rfl (fun _ => rfl) (fun _ => by omega)) rfl rfl ?_
          refine TrL.op (ok_ldE rfl (fun _ => rfl) rfl rfl rfl) rfl rfl ?_
          refine TrL.fin ?_
          refine End.nxt ?_
          refine Tr.cnd rfl ?_ ?_
          · intro h9
            rw [hsx] at h9
            have hxm := of_decide_eq_true h9
            refine Tr.drawS 13 12 mixed (by kernel_rfl) ?_
            refine RunS.opA (ok_move rfl (fun _ => rfl)) (by kernel_rfl) rfl rfl ?_
            refine RunS.opA (ok_fldO rfl (fun _ => rfl)) (by kernel_rfl) rfl rfl ?_
            refine RunS.opA (ok_ldB rfl (fun _ => rfl) rfl) (by kernel_rfl) rfl rfl ?_
            refine RunS.opA (ok_move rfl (fun _ => rfl)) (by kernel_rfl) rfl rfl ?_
            first | refine RunS.opA (ok_idxN rfl (fun _ => rfl) rfl (fun _ => rfl) rfl (fun _ => by omega)) (by kernel_rfl) rfl rfl ?_ | refine RunS.opA (ok_idxP rfl (fun _ => rfl) rfl (fun _ => rfl) rfl (fun _ => by omega)) (by kernel_rfl) rfl rfl ?_
            refine RunS.opA (ok_ldP rfl (fun _ => rfl) rfl) (by kernel_rfl) rfl rfl ?_
            refine RunS.op (ok_move rfl (fun _ => rfl)) rfl rfl ?_
            refine RunS.opA (ok_fldO rfl (fun _ => rfl)) (by kernel_rfl) rfl rfl ?_
            refine RunS.opA (ok_ldB rfl (fun _ => rfl) rfl) (by kernel_rfl) rfl rfl ?_
            refine RunS.opA (ok_move rfl (fun _ => rfl)) (by kernel_rfl) rfl rfl ?_
            first | refine RunS.opA (ok_idxN rfl (fun _ => rfl) rfl (fun _ => rfl) rfl (fun _ => by omega)) (by kernel_rfl) rfl rfl ?_ | refine RunS.opA (ok_idxP rfl (fun _ => rfl) rfl (fun _ => rfl) rfl (fun _ => by omega)) (by kernel_rfl) rfl rfl ?_
            refine RunS.opA (ok_ldP rfl (fun _ => rfl) rfl) (by kernel_rfl) rfl rfl ?_
            first | refine RunS.opA (ok_idxEN rfl (fun _ => rfl) rfl (fun _ => rfl) (fun _ => by omega)) (by kernel_rfl) rfl rfl ?_ | refine RunS.opA (ok_idxE rfl (fun _ => rfl) rfl (fun _ => rfl) (fun _ => by omega)) (by kernel_rfl) rfl rfl ?_
            refine RunS.z (st_E rfl rfl rfl rfl rfl) rfl rfl rfl ?_
            first | refine TrL.op (ok_idxEN rfl (fun _ => rfl) rfl (fun _ => rfl) (fun _ => by omega)) rfl rfl ?_ | refine TrL.op (ok_idxE rfl (fun _ => rfl) rfl (fun _ => rfl) (fun _ => by omega)) rfl rfl ?_
            refine TrL.stE rfl rfl rfl rfl rfl ?_
            refine TrL.fin ?_
            refine End.blk ?_
            refine End.nxt ?_
            refine Tr.rg ?_
            refine TrL.op (ok_move rfl (fun _ => rfl)) rfl rfl ?_
            refine TrL.op (ok_add rfl (fun _ => rfl) rfl (fun _ => rfl) (fun _ => by omega)) rfl rfl ?_
            refine TrL.op (ok_assign rfl (fun _ => rfl)) rfl rfl ?_
            refine TrL.fin ?_
            exact End.lp ((x + 1, T ++ [ap o.1 x] ++ [ap o.2 x])) ⟨by omega, hrn.yes v hs hxm⟩ (show o.1.length - (x + 1) < o.1.length - x by omega) (Ent.mk (.i rfl (by first | rfl | omega | (simp; done) | (simp; omega) | assumption) <| .k rfl rfl <| .k rfl rfl <| .k rfl rfl <| .nil) (.a (by rw [seenB_set (x := nth o.1 x) (by omega), seenB_set (x := nth o.2 x) (by omega)]; rfl) (by first | rfl | omega | (simp; done) | (simp; omega) | assumption) <| .k rfl <| .nil) rfl)
          · intro h9
            rw [hsx] at h9
            have hxm := of_decide_eq_false h9
            refine Tr.skip ?_
            refine End.blk ?_
            refine End.nxt ?_
            refine Tr.rg ?_
            refine TrL.op (ok_move rfl (fun _ => rfl)) rfl rfl ?_
            refine TrL.op (ok_add rfl (fun _ => rfl) rfl (fun _ => rfl) (fun _ => by omega)) rfl rfl ?_
            refine TrL.op (ok_assign rfl (fun _ => rfl)) rfl rfl ?_
            refine TrL.fin ?_
            exact End.lp ((x + 1, T)) ⟨by omega, hrn.no hxm⟩ (show o.1.length - (x + 1) < o.1.length - x by omega) (Ent.mk (.i rfl (by first | rfl | omega | (simp; done) | (simp; omega) | assumption) <| .k rfl rfl <| .k rfl rfl <| .k rfl rfl <| .nil) (.a (by first | rfl | omega | (simp; done) | (simp; omega) | assumption) (by first | rfl | omega | (simp; done) | (simp; omega) | assumption) <| .k rfl <| .nil) rfl)
        · intro h7
          replace h7 := Int.not_lt.1 (of_decide_eq_false h7)
          refine Tr.exit ?_
          refine Exs.thn ?_
          refine Exs.thn ?_
          refine Exs.here ?_
          exact End.cut ((x, T)) (by (obtain rfl : x = o.1.length := by omega); exact hrn) (Ent.mk (.i rfl (by first | rfl | omega | (simp; done) | (simp; omega) | assumption) <| .k rfl rfl <| .k rfl rfl <| .k rfl rfl <| .nil) (.a (by first | rfl | omega | (simp; done) | (simp; omega) | assumption) (by first | rfl | omega | (simp; done) | (simp; omega) | assumption) <| .k rfl <| .nil) rfl)
      · rintro ⟨x, T⟩ hrn
        refine End.norm (S' := [⟨7, true, _, _⟩, ⟨2, true, _, _⟩, ⟨5, true, _, _⟩, ⟨6, true, _, _⟩]) (M' := [⟨12, _, _⟩, ⟨2, _, _⟩]) rfl rfl ?_
        refine End.blk ?_
        refine End.nxt ?_
        refine Tr.rg ?_
        refine TrL.op (ok_move rfl (fun _ => rfl)) rfl rfl ?_
        refine TrL.op (ok_add rfl (fun _ => rfl) rfl (fun _ => rfl) (fun _ => by omega)) rfl rfl ?_
        refine TrL.op (ok_assign rfl (fun _ => rfl)) rfl rfl ?_
        refine TrL.fin ?_
        exact End.lp ((r + 1, T)) ⟨by omega, hro.next v hs hrn⟩ (show o.1.length - (r + 1) < o.1.length - r by omega) (Ent.mk (.i rfl (by first | rfl | omega | (simp; done) | (simp; omega) | assumption) <| .k rfl rfl <| .k rfl rfl <| .nil) (.a (by first | rfl | omega | (simp; done) | (simp; omega) | assumption) (by first | rfl | omega | (simp; done) | (simp; omega) | assumption) <| .k rfl <| .nil) rfl)
    · intro h4
      replace h4 := Int.not_lt.1 (of_decide_eq_false h4)
      refine Tr.exit ?_
      refine Exs.thn ?_
      refine Exs.thn ?_
      refine Exs.here ?_
      exact End.cut ((r, U)) ⟨by omega, hro⟩ (Ent.mk (.i rfl (by first | rfl | omega | (simp; done) | (simp; omega) | assumption) <| .k rfl rfl <| .k rfl rfl <| .nil) (.a (by first | rfl | omega | (simp; done) | (simp; omega) | assumption) (by first | rfl | omega | (simp; done) | (simp; omega) | assumption) <| .k rfl <| .nil) rfl)
  · rintro ⟨r, U⟩ ⟨hE0, hro⟩
    refine End.norm (S' := [⟨6, true, _, _⟩, ⟨2, true, _, _⟩, ⟨5, true, _, _⟩]) (M' := [⟨12, _, _⟩, ⟨2, _, _⟩]) rfl rfl ?_
    refine End.nxt ?_
    refine Tr.seq ?_
    refine Tr.rg ?_
    refine TrL.op (ok_assign rfl (fun _ => rfl)) rfl rfl ?_
    refine TrL.fin ?_
    refine End.nxt ?_
    refine Tr.seq ?_
    refine Tr.seq ?_
    refine Tr.rg ?_
    refine TrL.op (ok_assign rfl (fun _ => rfl)) rfl rfl ?_
    refine TrL.fin ?_
    refine End.nxt ?_
    refine Tr.grow (s := 8) rfl rfl 8 rfl 3 eI rfl ?_
    refine Tr.for1 (σ := Nat) [⟨2, true, _, _⟩, ⟨5, true, _, _⟩] [⟨2, _, _⟩, ⟨12, _, _⟩] (fun k => [⟨8, true, [8], kOsl 8 (ascK U k).length⟩, ⟨9, true, [], kI (k : Int)⟩]) (fun k => [⟨8, [], cArr true 3 eI (ascK U k) (ascK U k).length⟩]) (fun k => k ≤ o.1.length) (fun k => k = o.1.length) (fun k => o.1.length - k) (0) (Nat.zero_le _) (Ent.mk (.o rfl (by first | rfl | omega | (simp; done) | (simp; omega) | assumption) rfl <| .i rfl (by first | rfl | omega | (simp; done) | (simp; omega) | assumption) <| .k rfl rfl <| .k rfl rfl <| .nil) (.a (by first | rfl | omega | (simp; done) | (simp; omega) | assumption) (by first | rfl | omega | (simp; done) | (simp; omega) | assumption) <| .k rfl <| .k rfl <| .nil) rfl) ?_ ?_
    · intro k hR2
      refine Tr.norm (S' := [⟨8, true, _, _⟩, ⟨9, true, _, _⟩, ⟨2, true, _, _⟩, ⟨5, true, _, _⟩]) (M' := [⟨8, _, _⟩, ⟨2, _, _⟩, ⟨12, _, _⟩]) rfl rfl ?_
      have hal := ascK_len (l := U) (k := k)
      refine Tr.seq ?_
      refine Tr.seq ?_
      refine Tr.rg ?_
      refine TrL.op (ok_move rfl (fun _ => rfl)) rfl rfl ?_
      refine TrL.op (ok_ldBS rfl (fun _ => rfl)) rfl rfl ?_
      refine TrL.op (ok_call (fun hp => ct_rSize _) (.s rfl (fun _ => rfl) rfl <| .nil)) rfl rfl ?_
      refine TrL.op (ok_lss rfl (fun _ => rfl) rfl (fun _ => rfl)) rfl rfl ?_
      refine TrL.fin ?_
      refine End.nxt ?_
      refine Tr.cnd rfl ?_ ?_
      · intro h13
        replace h13 := of_decide_eq_true h13
        have hsk := nth_seenB (S := U) (show k < o.1.length by omega)
        refine Tr.skip ?_
        refine End.nxt ?_
        refine Tr.seq ?_
        refine Tr.blk ?_
        refine Tr.seq ?_
        refine Tr.rg ?_
        refine TrL.op (ok_move rfl (fun _ => rfl)) rfl rfl ?_
        refine TrL.op (ok_move rfl (fun _ => rfl)) rfl rfl ?_
        first | refine TrL.op (ok_idxEN rfl (fun _ => rfl) rfl (fun _ => rfl) (fun _ => by omega)) rfl rfl ?_ | refine TrL.op (ok_idxE rfl (fun _ => rfl) rfl (fun _ => rfl) (fun _ => by omega)) rfl rfl ?_
        refine TrL.op (ok_ldE rfl (fun _ => rfl) rfl rfl rfl) rfl rfl ?_
        refine TrL.fin ?_
        refine End.nxt ?_
        refine Tr.cnd rfl ?_ ?_
        · intro h15
          rw [hsk] at h15
          have hkm := of_decide_eq_true h15
          refine Tr.rg ?_
          refine TrL.op (ok_move rfl (fun _ => rfl)) rfl rfl ?_
          refine TrL.op (ok_move rfl (fun _ => rfl)) rfl rfl ?_
          refine TrL.new (ok_bsl eI 58 (fun hp => .cons rfl <| .nil) rfl rfl rfl rfl) rfl rfl rfl rfl ?_
          refine TrL.app rfl rfl rfl rfl rfl rfl rfl rfl (by first | omega | (simp only [List.length_cons, List.length_nil]; omega)) (by first | omega | (simp only [List.length_cons, List.length_nil]; omega)) ?_
          refine TrL.norm (S' := [⟨_, _, _, _⟩, ⟨_, _, _, _⟩, ⟨_, _, _, _⟩, ⟨_, _, _, _⟩, ⟨_, _, _, _⟩, ⟨_, _, _, _⟩, ⟨_, _, _, _⟩, ⟨_, _, _, _⟩, ⟨_, _, _, _⟩, ⟨_, _, _, _⟩, ⟨_, _, _, _⟩, ⟨_, _, _, _⟩, ⟨_, _, _, _⟩, ⟨_, _, _, _⟩, ⟨_, _, _, _⟩, ⟨_, _, _, _⟩]) rfl rfl ?_
          refine TrL.op (ok_assign rfl (fun _ => rfl)) rfl rfl ?_
          refine TrL.fin ?_
          refine End.blk ?_
          refine End.nxt ?_
          refine Tr.rg ?_
          refine TrL.op (ok_move rfl (fun _ => rfl)) rfl rfl ?_
          refine TrL.op (ok_add rfl (fun _ => rfl) rfl (fun _ => rfl) (fun _ => by omega)) rfl rfl ?_
          refine TrL.op (ok_assign rfl (fun _ => rfl)) rfl rfl ?_
          refine TrL.fin ?_
          exact End.lp (k + 1) (by first | rfl | omega | (simp; done) | (simp; omega) | assumption) (by omega) (Ent.mk (.o rfl (by rw [ascK_in hkm, List.length_append]) rfl <| .i rfl (by first | rfl | omega | (simp; done) | (simp; omega) | assumption) <| .k rfl rfl <| .k rfl rfl <| .nil) (.a (by rw [ascK_in hkm]) (by rw [ascK_in hkm, List.length_append]) <| .k rfl <| .k rfl <| .nil) rfl)
        · intro h15
          rw [hsk] at h15
          have hkm := of_decide_eq_false h15
          refine Tr.skip ?_
          refine End.blk ?_
          refine End.nxt ?_
          refine Tr.rg ?_
          refine TrL.op (ok_move rfl (fun _ => rfl)) rfl rfl ?_
          refine TrL.op (ok_add rfl (fun _ => rfl) rfl (fun _ => rfl) (fun _ => by omega)) rfl rfl ?_
          refine TrL.op (ok_assign rfl (fun _ => rfl)) rfl rfl ?_
          refine TrL.fin ?_
          exact End.lp (k + 1) (by first | rfl | omega | (simp; done) | (simp; omega) | assumption) (by omega) (Ent.mk (.o rfl (by rw [ascK_out hkm]) rfl <| .i rfl (by first | rfl | omega | (simp; done) | (simp; omega) | assumption) <| .k rfl rfl <| .k rfl rfl <| .nil) (.a (by rw [ascK_out hkm]) (by rw [ascK_out hkm]) <| .k rfl <| .k rfl <| .nil) rfl)
      · intro h13
        replace h13 := Int.not_lt.1 (of_decide_eq_false h13)
        refine Tr.exit ?_
        refine Exs.thn ?_
        refine Exs.thn ?_
        refine Exs.here ?_
        exact End.cut (k) (by omega) (Ent.mk (.o rfl (by first | rfl | omega | (simp; done) | (simp; omega) | assumption) rfl <| .i rfl (by first | rfl | omega | (simp; done) | (simp; omega) | assumption) <| .k rfl rfl <| .k rfl rfl <| .nil) (.a (by first | rfl | omega | (simp; done) | (simp; omega) | assumption) (by first | rfl | omega | (simp; done) | (simp; omega) | assumption) <| .k rfl <| .k rfl <| .nil) rfl)
    · rintro _ rfl
      refine End.norm (S' := [⟨8, true, _, _⟩, ⟨9, true, _, _⟩, ⟨2, true, _, _⟩, ⟨5, true, _, _⟩]) (M' := [⟨8, _, _⟩, ⟨2, _, _⟩, ⟨12, _, _⟩]) rfl rfl ?_
      have hal := ascK_len (l := U) (k := o.1.length)
      refine End.nxt ?_
      refine Tr.seq ?_
      refine Tr.rg ?_
      refine TrL.op (ok_move rfl (fun _ => rfl)) rfl rfl ?_
      refine TrL.op (ok_assign rfl (fun _ => rfl)) rfl rfl ?_
      refine TrL.fin ?_
      refine End.nxt ?_
      refine Tr.frz 8 [4] ⟨rfl, trivial⟩ (by simp only [lenMax]; omega) rfl ?_
      refine Tr.ret ?_
      exact Rts.res1 (fn := Try.f83) rfl (.r rfl (by rw [hE0] at hro; exact hro.fin v hs) <| .nil)

set_option maxRecDepth 100000 in
theorem ct_rComponents (o : Ori) (v : Valid o) : Ct Try.prog 70 [kRd eO o] (kRd (eL (eL eI)) (comps o o.1.length)) := by
  have hv0 := v.pos
  have hv1 := v.len
  have hv2 := v.le
  refine Ct.mk Try.func70 rfl Try.ntmps70 rfl (fun w J => ?_)
  refine Tr.seq ?_
  refine Tr.rg ?_
  refine TrL.new (ok_box 1 rfl (fun _ => rfl) rfl) rfl rfl rfl rfl ?_
  refine TrL.op (ok_assign rfl (fun _ => rfl)) rfl rfl ?_
  refine TrL.fin ?_
  refine End.nxt ?_
  refine Tr.seq ?_
  refine Tr.rg ?_
  refine TrL.op (ok_assign rfl (fun _ => rfl)) rfl rfl ?_
  refine TrL.fin ?_
  refine End.nxt ?_
  refine Tr.seq ?_
  refine Tr.seq ?_
  refine Tr.rg ?_
  refine TrL.op (ok_assign rfl (fun _ => rfl)) rfl rfl ?_
  refine TrL.fin ?_
  refine End.nxt ?_
  refine Tr.grow (s := 3) rfl rfl 3 rfl 22 (eL eI) rfl ?_
  refine Tr.for1 (σ := Nat) [⟨1, true, _, _⟩] [⟨1, _, _⟩] (fun k => [⟨3, true, [3], kOsl 3 (comps o k).length⟩, ⟨4, true, [], kI (k : Int)⟩]) (fun k => [⟨3, [], cArr true 22 (eL eI) (comps o k) (comps o k).length⟩]) (fun k => k ≤ o.1.length) (fun k => k = o.1.length) (fun k => o.1.length - k) (0) (Nat.zero_le _) (Ent.mk (.o rfl (by first | rfl | omega | (simp; done) | (simp; omega) | assumption) rfl <| .i rfl (by first | rfl | omega | (simp; done) | (simp; omega) | assumption) <| .k rfl rfl <| .nil) (.a (by first | rfl | omega | (simp; done) | (simp; omega) | assumption) (by first | rfl | omega | (simp; done) | (simp; omega) | assumption) <| .k rfl <| .nil) rfl) ?_ ?_
  · intro k hR0
    refine Tr.norm (S' := [⟨3, true, _, _⟩, ⟨4, true, _, _⟩, ⟨1, true, _, _⟩]) (M' := [⟨3, _, _⟩, ⟨1, _, _⟩]) rfl rfl ?_
    have hcl := comps_len (o := o) (k := k)
    refine Tr.seq ?_
    refine Tr.seq ?_
    refine Tr.rg ?_
    refine TrL.op (ok_move rfl (fun _ => rfl)) rfl rfl ?_
    refine TrL.op (ok_ldBS rfl (fun _ => rfl)) rfl rfl ?_
    refine TrL.op (ok_call (fun hp => ct_rSize _) (.s rfl (fun _ => rfl) rfl <| .nil)) rfl rfl ?_
    refine TrL.op (ok_lss rfl (fun _ => rfl) rfl (fun _ => rfl)) rfl rfl ?_
    refine TrL.fin ?_
    refine End.nxt ?_
    refine Tr.cnd rfl ?_ ?_
    · intro h3
      replace h3 := of_decide_eq_true h3
      have hk : k < o.1.length := by omega
      have hcp := compL_pos v (Sq.nat hk)
      have hhd := compL_head v hk
      refine Tr.skip ?_
      refine End.nxt ?_
      refine Tr.seq ?_
      refine Tr.blk ?_
      refine Tr.seq ?_
      refine Tr.rg ?_
      refine TrL.op (ok_ldBS rfl (fun _ => rfl)) rfl rfl ?_
      refine TrL.op (ok_move rfl (fun _ => rfl)) rfl rfl ?_
      refine TrL.op (ok_call (fun hp => ct_rComponent _ _ v (Sq.nat hk)) (.s rfl (fun _ => rfl) rfl <| .a rfl (fun _ => rfl) <| .nil)) rfl rfl ?_
      refine TrL.op (ok_assign rfl (fun _ => rfl)) rfl rfl ?_
      refine TrL.fin ?_
      refine End.nxt ?_
      refine Tr.seq ?_
      refine Tr.rg ?_
      refine TrL.op (ok_move rfl (fun _ => rfl)) rfl rfl ?_
      first | refine TrL.op (ok_idxN rfl (fun _ => rfl) rfl (fun _ => rfl) rfl (fun _ => by omega)) rfl rfl ?_ | refine TrL.op (ok_idxP rfl (fun _ => rfl) rfl (fun _ => rfl) rfl (fun _ => by omega)) rfl rfl ?_
      refine TrL.op (ok_ldP rfl (fun _ => rfl) rfl) rfl rfl ?_
      refine TrL.op (ok_move rfl (fun _ => rfl)) rfl rfl ?_
      refine TrL.op (ok_eql rfl (fun _ => rfl) rfl (fun _ => rfl)) rfl rfl ?_
      refine TrL.fin ?_
      refine End.nxt ?_
      refine Tr.cnd rfl ?_ ?_
      · intro h6
        replace h6 := of_decide_eq_true h6
        have hm := hhd.1 h6
        refine Tr.rg ?_
        refine TrL.op (ok_move rfl (fun _ => rfl)) rfl rfl ?_
        refine TrL.op (ok_move rfl (fun _ => rfl)) rfl rfl ?_
        refine TrL.new (ok_bsl (eL eI) 22 (fun hp => .cons rfl <| .nil) rfl rfl rfl rfl) rfl rfl rfl rfl ?_
        refine TrL.app rfl rfl rfl rfl rfl rfl rfl rfl (by first | omega | (simp only [List.length_cons, List.length_nil]; omega)) (by first | omega | (simp only [List.length_cons, List.length_nil]; omega)) ?_
        refine TrL.norm (S' := [⟨_, _, _, _⟩, ⟨_, _, _, _⟩, ⟨_, _, _, _⟩, ⟨_, _, _, _⟩, ⟨_, _, _, _⟩, ⟨_, _, _, _⟩, ⟨_, _, _, _⟩, ⟨_, _, _, _⟩, ⟨_, _, _, _⟩, ⟨_, _, _, _⟩, ⟨_, _, _, _⟩, ⟨_, _, _, _⟩, ⟨_, _, _, _⟩, ⟨_, _, _, _⟩, ⟨_, _, _, _⟩, ⟨_, _, _, _⟩, ⟨_, _, _, _⟩, ⟨_, _, _, _⟩, ⟨_, _, _, _⟩, ⟨_, _, _, _⟩]) rfl rfl ?_
        refine TrL.op (ok_assign rfl (fun _ => rfl)) rfl rfl ?_
        refine TrL.fin ?_
        refine End.blk ?_
        refine End.nxt ?_
        refine Tr.rg ?_
        refine TrL.op (ok_move rfl (fun _ => rfl)) rfl rfl ?_
        refine TrL.op (ok_add rfl (fun _ => rfl) rfl (fun _ => rfl) (fun _ => by omega)) rfl rfl ?_
        refine TrL.op (ok_assign rfl (fun _ => rfl)) rfl rfl ?_
        refine TrL.fin ?_
        exact End.lp (k + 1) (by first | rfl | omega | (simp; done) | (simp; omega) | assumption) (by omega) (Ent.mk (.o rfl (by rw [comps_new hm, List.length_append]) rfl <| .i rfl (by first | rfl | omega | (simp; done) | (simp; omega) | assumption) <| .k rfl rfl <| .nil) (.a (by rw [comps_new hm]) (by rw [comps_new hm, List.length_append]) <| .k rfl <| .nil) rfl)
      · intro h6
        replace h6 := of_decide_eq_false h6
        have hm := Classical.not_not.1 (fun hh => h6 (hhd.2 hh))
        refine Tr.skip ?_
        refine End.blk ?_
        refine End.nxt ?_
        refine Tr.rg ?_
        refine TrL.op (ok_move rfl (fun _ => rfl)) rfl rfl ?_
        refine TrL.op (ok_add rfl (fun _ => rfl) rfl (fun _ => rfl) (fun _ => by omega)) rfl rfl ?_
        refine TrL.op (ok_assign rfl (fun _ => rfl)) rfl rfl ?_
        refine TrL.fin ?_
        exact End.lp (k + 1) (by first | rfl | omega | (simp; done) | (simp; omega) | assumption) (by omega) (Ent.mk (.o rfl (by rw [comps_in hm]) rfl <| .i rfl (by first | rfl | omega | (simp; done) | (simp; omega) | assumption) <| .k rfl rfl <| .nil) (.a (by rw [comps_in hm]) (by rw [comps_in hm]) <| .k rfl <| .nil) rfl)
    · intro h3
      replace h3 := Int.not_lt.1 (of_decide_eq_false h3)
      refine Tr.exit ?_
      refine Exs.thn ?_
      refine Exs.thn ?_
      refine Exs.here ?_
      exact End.cut (k) (by omega) (Ent.mk (.o rfl (by first | rfl | omega | (simp; done) | (simp; omega) | assumption) rfl <| .i rfl (by first | rfl | omega | (simp; done) | (simp; omega) | assumption) <| .k rfl rfl <| .nil) (.a (by first | rfl | omega | (simp; done) | (simp; omega) | assumption) (by first | rfl | omega | (simp; done) | (simp; omega) | assumption) <| .k rfl <| .nil) rfl)
  · rintro _ rfl
    refine End.norm (S' := [⟨3, true, _, _⟩, ⟨4, true, _, _⟩, ⟨1, true, _, _⟩]) (M' := [⟨3, _, _⟩, ⟨1, _, _⟩]) rfl rfl ?_
    have hcl := comps_len (o := o) (k := o.1.length)
    refine End.nxt ?_
    refine Tr.seq ?_
    refine Tr.rg ?_
    refine TrL.op (ok_move rfl (fun _ => rfl)) rfl rfl ?_
    refine TrL.op (ok_assign rfl (fun _ => rfl)) rfl rfl ?_
    refine TrL.fin ?_
    refine End.nxt ?_
    refine Tr.frz 3 [2] ⟨rfl, trivial⟩ (by simp only [lenMax]; omega) rfl ?_
    refine Tr.ret ?_
    exact Rts.res1 (fn := Try.f70) rfl (.r rfl (by first | rfl | omega | (simp; done) | (simp; omega) | assumption) <| .nil)

set_option maxRecDepth 100000 in
theorem ct_rConnected (o : Ori) (v : Valid o) : Ct Try.prog 41 [kRd eO o] (kB (decide ((comps o o.1.length).length = 1))) := by
  refine Ct.mk Try.func41 rfl Try.ntmps41 rfl (fun w J => ?_)
  refine Tr.seq ?_
  refine Tr.rg ?_
  refine TrL.new (ok_box 1 rfl (fun _ => rfl) rfl) rfl rfl rfl rfl ?_
  refine TrL.op (ok_assign rfl (fun _ => rfl)) rfl rfl ?_
  refine TrL.fin ?_
  refine End.nxt ?_
  refine Tr.seq ?_
  refine Tr.rg ?_
  refine TrL.op (ok_ldBS rfl (fun _ => rfl)) rfl rfl ?_
  refine TrL.op (ok_call (fun hp => ct_rComponents _ v) (.s rfl (fun _ => rfl) rfl <| .nil)) rfl rfl ?_
  refine TrL.op (ok_lenJ rfl (fun _ => rfl)) rfl rfl ?_
  refine TrL.op (ok_eql rfl (fun _ => rfl) rfl (fun _ => rfl)) rfl rfl ?_
  refine TrL.op (ok_assign rfl (fun _ => rfl)) rfl rfl ?_
  refine TrL.fin ?_
  refine End.nxt ?_
  refine Tr.ret ?_
  exact Rts.res1 (fn := Try.f41) rfl (.b rfl (by rw [Bool.eq_iff_iff]; simp; omega) <| .nil)

set_option maxRecDepth 100000 in
theorem ct_rCheckOne (o : Ori) : Ct Try.prog 13 [kRd eO o] (kI (chk1 o)) := by
  refine Ct.mk Try.func13 rfl Try.ntmps13 rfl (fun w J => ?_)
  refine Tr.seq ?_
  refine Tr.rg ?_
  refine TrL.new (ok_box 1 rfl (fun _ => rfl) rfl) rfl rfl rfl rfl ?_
  refine TrL.op (ok_assign rfl (fun _ => rfl)) rfl rfl ?_
  refine TrL.fin ?_
  refine End.nxt ?_
  refine Tr.seq ?_
  refine Tr.seq ?_
  refine Tr.rg ?_
  refine TrL.op (ok_ldBS rfl (fun _ => rfl)) rfl rfl ?_
  refine TrL.op (ok_call (fun hp => ct_rCheck _) (.s rfl (fun _ => rfl) rfl <| .nil)) rfl rfl ?_
  refine TrL.op (ok_assign rfl (fun _ => rfl)) rfl rfl ?_
  refine TrL.fin ?_
  refine End.nxt ?_
  refine Tr.seq ?_
  refine Tr.rg ?_
  refine TrL.op (ok_move rfl (fun _ => rfl)) rfl rfl ?_
  refine TrL.op (ok_neq rfl (fun _ => rfl) rfl (fun _ => rfl)) rfl rfl ?_
  refine TrL.fin ?_
  refine End.nxt ?_
  refine Tr.cnd rfl ?_ ?_
  · intro h2
    replace h2 := of_decide_eq_true h2
    refine Tr.seq ?_
    refine Tr.rg ?_
    refine TrL.op (ok_move rfl (fun _ => rfl)) rfl rfl ?_
    refine TrL.op (ok_assign rfl (fun _ => rfl)) rfl rfl ?_
    refine TrL.fin ?_
    refine End.nxt ?_
    refine Tr.ret ?_
    refine Rts.thn ?_
    exact Rts.res1 (fn := Try.f13) rfl (.i rfl (by unfold chk1; rw [orE_l h2]) <| .nil)
  · intro h2
    replace h2 := Classical.not_not.1 (of_decide_eq_false h2)
    have v : Valid o := valid_of h2
    have hcp := comps_pos v
    refine Tr.skip ?_
    refine End.nxt ?_
    refine Tr.seq ?_
    refine Tr.seq ?_
    refine Tr.rg ?_
    refine TrL.op (ok_ldBS rfl (fun _ => rfl)) rfl rfl ?_
    refine TrL.op (ok_call (fun hp => ct_rConnected _ v) (.s rfl (fun _ => rfl) rfl <| .nil)) rfl rfl ?_
    refine TrL.op (ok_not rfl (fun _ => rfl)) rfl rfl ?_
    refine TrL.fin ?_
    refine End.nxt ?_
    refine Tr.cnd rfl ?_ ?_
    · intro h4
      have h4b : (comps o o.1.length).length ≠ 1 := by simpa using h4
      refine Tr.seq ?_
      refine Tr.rg ?_
      refine TrL.op (ok_assign rfl (fun _ => rfl)) rfl rfl ?_
      refine TrL.fin ?_
      refine End.nxt ?_
      refine Tr.ret ?_
      refine Rts.thn ?_
      exact Rts.res1 (fn := Try.f13) rfl (.i rfl (by unfold chk1; rw [orE_r h2, splE_pos (by omega)]) <| .nil)
    · intro h4
      have h4b : (comps o o.1.length).length = 1 := by simpa using h4
      refine Tr.skip ?_
      refine End.nxt ?_
      refine Tr.seq ?_
      refine Tr.rg ?_
      refine TrL.op (ok_assign rfl (fun _ => rfl)) rfl rfl ?_
      refine TrL.fin ?_
      refine End.nxt ?_
      refine Tr.ret ?_
      exact Rts.res1 (fn := Try.f13) rfl (.i rfl (by unfold chk1; rw [orE_r h2, splE_zero (by omega)]) <| .nil)

end Go.Fl

/- The reference's orders. Plain Lean, no program in sight. -/
namespace Go.Fl
def dnT (L : List Int) : Nat → List Int
  | 0 => []
  | j + 1 => dnL L j
def filK (X L : List Int) (k i : Nat) : List Int := X ++ (L.take i).filter (eqB k)
theorem ordsL_len {o : Ori} : (ordsL o).length = (vtx o).length := by unfold ordsL ordOf; simp
theorem stratL_len {o : Ori} (v : Valid o) : (stratL o).length = (vtx o).length := by
  unfold stratL
  exact (dnL_all (L := ordsL o) (ordOf_rng v.pC)).length_eq.trans ordsL_len
end Go.Fl

/- Contracts: the reference: directions, strata; the law of directions. -/
namespace Go.Fl
open Go Go.Proofs


end Go.Fl

/- Errors of maps. Plain Lean, no program in sight. -/
namespace Go.Fl
def ontoB (n : Nat) (f : List Int) : Bool := (List.range n).all fun y : Nat => decide ((y : Int) ∈ f)
def cmE (a b : Ori) (f : List Int) (same : Bool) : Int :=
  orE (chkO a) (orE (chkO b) (if f.length ≠ a.1.length ∨ (same = true ∧ a.1.length ≠ b.1.length) then 10 else if ¬ inR f b.1.length then 2 else if isMapB a b f = true ∧ ontoB b.1.length f = true then 0 else 18))
section
variable {a b : Ori} {f : List Int} {same : Bool}
end
end Go.Fl

/- Contracts: maps that are checked; the law of proofs. -/
namespace Go.Fl
open Go Go.Proofs

end Go.Fl

/- Maps along the search; the reference's maps. Plain Lean, no program in sight. -/
namespace Go.Fl
/-- The state of a map at the k-th square of the search, j neighbours looked at; f0: the map when the square was taken up. -/
structure MpSt (a b : Ori) (s : Int) (k j : Nat) (f0 f : List Int) : Prop where
  st : MapSt a b s (srch a [] 0 k j) f
  kp : Kept a b (srch a [] 0 k j) f k j
  same : ap f (nth (bfsTo a [] 0 k) k) = ap f0 (nth (bfsTo a [] 0 k) k)
section
variable {a b : Ori} {s : Int} {k j : Nat} {f0 f : List Int}
theorem srch_nth (hk : k < (bfsTo a [] 0 k).length) : nth (srch a [] 0 k j) k = nth (bfsTo a [] 0 k) k ∧ k < (srch a [] 0 k j).length := by
  obtain ⟨r, hr⟩ := addL_pre (F := []) (ys := (stp a (nth (bfsTo a [] 0 k) k)).take j) (l := bfsTo a [] 0 k)
  unfold srch
  rw [hr]
  exact ⟨nth_app_l hk, by rw [List.length_append]; omega⟩
theorem MpSt.start (h : MapSt a b s (bfsTo a [] 0 k) f0) (hk : Kept a b (bfsTo a [] 0 k) f0 k 0) : MpSt a b s k 0 f0 f0 := ⟨h, hk, rfl⟩
theorem MpSt.old (va : Valid a) (hk : k < (bfsTo a [] 0 k).length) (hj : j < 2) (h : MpSt a b s k j f0 f) (hs : Good a.1.length ([] ++ [(0 : Int)])) (vb : Valid b) (e : ap f (nth (stp a (nth (bfsTo a [] 0 k) k)) j) = nth (stp b (ap f0 (nth (bfsTo a [] 0 k) k))) j) :
    srch a [] 0 k (j + 1) = srch a [] 0 k j ∧ MpSt a b s k (j + 1) f0 f := by
  obtain ⟨hn, hl⟩ := srch_nth (j := j) hk
  have hx := srch_x va hs hk
  have hy := stp_nth_sq va hx hj
  have hz := stp_nth_sq vb (h.st.inn _ (hn ▸ nth_mem hl)) hj
  rw [h.same] at hz
  have hm : nth (stp a (nth (bfsTo a [] 0 k) k)) j ∈ srch a [] 0 k j := Classical.byContradiction fun hh => by
    have := h.st.out _ hy hh
    rw [this] at e; have := hz.1; omega
  have e1 : srch a [] 0 k (j + 1) = srch a [] 0 k j := srch_in hj (by simpa using hm)
  refine ⟨e1, ⟨by rw [e1]; exact h.st, ?_, h.same⟩⟩
  rw [e1]
  exact h.kp.same (by rw [hn]; exact hm) (by rw [hn, h.same]; exact e)
theorem MpSt.new (va : Valid a) (hk : k < (bfsTo a [] 0 k).length) (hj : j < 2) (h : MpSt a b s k j f0 f) (hs : Good a.1.length ([] ++ [(0 : Int)])) (vb : Valid b) (e : ap f (nth (stp a (nth (bfsTo a [] 0 k) k)) j) = -1) :
    srch a [] 0 k (j + 1) = srch a [] 0 k j ++ [nth (stp a (nth (bfsTo a [] 0 k) k)) j] ∧ MpSt a b s k (j + 1) f0 (f.set (nth (stp a (nth (bfsTo a [] 0 k) k)) j).toNat (nth (stp b (ap f0 (nth (bfsTo a [] 0 k) k))) j)) := by
  obtain ⟨hn, hl⟩ := srch_nth (j := j) hk
  have hx := srch_x va hs hk
  have hy := stp_nth_sq va hx hj
  have hxm : nth (bfsTo a [] 0 k) k ∈ srch a [] 0 k j := hn ▸ nth_mem hl
  have hz := stp_nth_sq vb (h.st.inn _ hxm) hj
  have hm : nth (stp a (nth (bfsTo a [] 0 k) k)) j ∉ srch a [] 0 k j := fun hh => by
    have := h.st.inn _ hh
    rw [e] at this; have := this.1; omega
  have e1 : srch a [] 0 k (j + 1) = srch a [] 0 k j ++ [nth (stp a (nth (bfsTo a [] 0 k) k)) j] := srch_new hj (by simpa using hm)
  rw [← h.same]
  refine ⟨e1, ⟨?_, ?_, ?_⟩⟩
  · rw [e1]
    exact h.st.more hy hm hz fun g hg e' => by rw [h.st.hom g hg e' _ hxm]; exact hom_stp hg hx hj
  · rw [e1]
    exact Kept.more h.st hl h.kp hy hm hz (by rw [hn]) (by rw [hn])
  · rw [ap_set hy.1 (by rw [h.st.len]; exact hx), if_neg (fun e' => hm (by rw [e']; exact hxm))]
    exact h.same
theorem MpSt.fin (hk : k < (bfsTo a [] 0 k).length) (h : MpSt a b s k 2 f0 f) : MapSt a b s (bfsTo a [] 0 (k + 1)) f ∧ Kept a b (bfsTo a [] 0 (k + 1)) f (k + 1) 0 := by
  have h1 := h.st; have h2 := h.kp
  rw [srch_two hk] at h1 h2
  exact ⟨h1, h2.next⟩
end
noncomputable def covE (a b : Ori) : Int := orE (chk2 a b) (if (mapsL a b).length = 0 then 11 else 0)
noncomputable def covL (a b : Ori) : List Int := if covE a b = 0 then nth (mapsL a b) 0 else []
noncomputable def isoE (a b : Ori) : Int := orE (chk2 a b) (if a.1.length ≠ b.1.length ∨ (mapsL a b).length = 0 then 11 else 0)
noncomputable def isoL (a b : Ori) : List Int := if isoE a b = 0 then nth (mapsL a b) 0 else []
end Go.Fl

/- Elements of an array of the call's own. No program in sight. -/
namespace Go.Fl
open Go Go.RowKit
section
variable {P : Program} {c : Ctx} {S : Slots} {M : Conts} {p : Bool} {d : Option Tmp} {ty : TypeId} {pos : String} {af : Array Edge} {gd : Option (Nat × Bool)} {x y : Operand} {b b' : Bool}
theorem ok_idxArrO {t et : TypeId} {n : Nat} [ht : TyArr P t n et] {sz by' : Nat} {zz : Value} [hz : TySz P et sz by' zz] {u o : Nat} {ik : IntKind} {i : Int} (hx : opK S x = some (b, kOwn u o)) (hb : p = true → b = true) (hy : opK S y = some (b', kInt ik i)) (hb' : p = true → b' = true) (h : p = true → 0 ≤ i ∧ i < n) :
    OpOk P c S M ⟨d, .indexAddr t x y, ty, pos, af, gd⟩ p (kOwn u (o + i.toNat * sz)) none :=
  OpOk.pure fun hp a g w _ _ ho => by
    obtain ⟨bl, cap, h1, h2⟩ := ho x (by simp [Op.operands]) b _ hx (hb hp)
    have h3 : a.eval y = _ := ho y (by simp [Op.operands]) b' _ hy (hb' hp)
    have hlt := h hp
    obtain ⟨ti, hi, rfl, _, _⟩ := hz.h
    refine ⟨.pointer (some ⟨bl, o + i.toNat * ti.size, none⟩), ?_, bl, cap, h1, rfl⟩
    simp [execOp, h2, h3, Instr.indexAt, run_underlying ht.h, asIntOf, hlt, sizeOf, typeInfo, hi, Instr.sureAddr, Addr.add_lit]
end
end Go.Fl

/- Contracts: maps; the law of maps. -/
namespace Go.Fl
open Go Go.Proofs


end Go.Fl

/- Parts of an origami, cycles of lists. Plain Lean, no program in sight. -/
namespace Go.Fl
structure IsComp (o : Ori) (c : List Int) : Prop where
  nd : c.Nodup
  sq : ∀ x ∈ c, Sq o.1.length x
  R : ∀ x ∈ c, ap o.1 x ∈ c
  U : ∀ x ∈ c, ap o.2 x ∈ c
theorem IsComp.len {o : Ori} {c : List Int} (h : IsComp o c) : c.length ≤ o.1.length := (show Good o.1.length c from ⟨h.nd, h.sq⟩).len
def partF (p c : List Int) (j : Nat) : Int := atL c (ap p (nth c j))
def partO (o : Ori) (c : List Int) : Ori := (tab c.length (partF o.1 c), tab c.length (partF o.2 c))
def partE (o : Ori) (i : Int) : Int := orE (chkO o) (if 0 ≤ i ∧ i < (comps o o.1.length).length then 0 else 6)
def partR (o : Ori) (i : Int) : Ori := if partE o i = 0 then partO o (nth (comps o o.1.length) i.toNat) else ([], [])
def cycE (p : List Int) : Int := if 60 < p.length then 8 else chkL p p.length
end Go.Fl

/- Rows that a struct of the call's own holds: they begin as nil, and are appended to; maps of integers. No program in sight. -/
namespace Go.Fl
open Go Go.RowKit

instance {ks kx out : List Know} [h : SetAt ks 0 kx out] : SetAt ks (0 + 0) kx out := h
/-! ### 1. Cells of which less is said -/
inductive Wk : List Know → List Know → Prop
  | nil : Wk [] []
  | k {k : Know} {ks ls : List Know} (r : Wk ks ls) : Wk (k :: ks) (k :: ls)
  | any {k : Know} {ks ls : List Know} (r : Wk ks ls) : Wk (k :: ks) (kAny :: ls)
theorem Wk.imp {ks ls : List Know} (h : Wk ks ls) {g : Gh} : ∀ {vs : List Value}, allK g ks vs → allK g ls vs := by
  induction h with
  | nil => intro vs h; exact h
  | k _ ih => intro vs h; cases vs with
    | nil => exact h.elim
    | cons v vs => exact ⟨h.1, ih h.2⟩
  | any _ ih => intro vs h; cases vs with
    | nil => exact h.elim
    | cons v vs => exact ⟨trivial, ih h.2⟩
theorem Sat.conC {c : Ctx} {S : Slots} {M M' : Conts} {a : Act} {g : Gh} {w : World} (h : Sat c S M a g w) {v : Nat} {ct ct' : Cont} {dep dep' : List Nat} [hl : LkM M v ct dep] (hc : ∀ g b o, ct g b o → ct' g b o) (hd : CDep ct' dep') (hup : UpM M v ct' dep' M') (hs : ∀ t ∈ dep', t ∈ tags M) : Sat c S M' a g w := by
  have htag := hup.tags
  refine ⟨h.ok, h.slots, fun e he => ?_, fun t ht => ?_, ?_, fun e he => ?_, fun e he => ?_, h.defers, h.size⟩
  · rcases hup.mem h.nodup e he with rfl | ⟨he, _⟩
    · obtain ⟨b, h1, h2⟩ := h.conts _ hl.mem
      exact ⟨b, h1, hc _ _ _ h2⟩
    · exact h.conts e he
  · have := h.dom t ht
    show t ∈ tags M'
    rw [htag]; exact this
  · show (tags M').Nodup
    rw [htag]; exact h.nodup
  · exact ⟨(h.sdep e he).1, fun t ht => by show t ∈ tags M'; rw [htag]; exact (h.sdep e he).2 t ht⟩
  · rcases hup.mem h.nodup e he with rfl | ⟨he, _⟩
    · exact ⟨hd, fun t ht => by show t ∈ tags M'; rw [htag]; exact hs t ht⟩
    · exact ⟨(h.cdep e he).1, fun t ht => by show t ∈ tags M'; rw [htag]; exact (h.cdep e he).2 t ht⟩
/-! ### 2. A nil slice in a struct's cell is a row that is nowhere yet -/
theorem Sat.growC {c : Ctx} {S : Slots} {M M1 : Conts} {a : Act} {g : Gh} {w : World} (h : Sat c S M a g w) (v o u : Nat) {ks ks' : List Know} {dep dep' : List Nat} [hl : LkM M v (cBlk ks) dep] (ho : ks[o]? = some (kDet (.slice none 0 0))) (he : ks' = ks.set o (kOsl u 0)) (hd : CDep (cBlk ks') dep') (hup : UpM M v (cBlk ks') dep' M1)
    (hf : subT [u] (tags M) = false) {α : Type} (et : TypeId) (e : Enc α) (hs : subT dep' (u :: tags M) = true) (hdk : ∀ k ∈ ks, ∃ d, KDep k d ∧ ∀ t ∈ d, t ∈ tags M) : ∃ g', Sat c S (⟨u, [], cArr true et e [] 0⟩ :: M1) a g' w := by
  have hfresh : u ∉ tags M := by
    intro ht
    have : subT [u] (tags M) = true := by
      simp only [subT, Bool.and_true]
      exact List.any_eq_true.2 ⟨u, ht, Nat.beq_refl u⟩
    rw [hf] at this; cases this
  have hnone : g.M u = none := by
    cases hm : g.M u with
    | none => rfl
    | some b => exact absurd (h.dom u (by rw [hm]; simp)) hfresh
  have hle : g.le (g.add u .nil) := ⟨JV.le_refl _, fun t b hb => by
    simp only [Gh.add]
    by_cases ht : t = u
    · subst ht; rw [hnone] at hb; cases hb
    · rw [if_neg ht]; exact hb⟩
  have hblk : ∀ t b cap, (g.add u .nil).M t = some (.blk b cap) → g.M t = some (.blk b cap) := fun t b cap ht => by
    simp only [Gh.add] at ht
    by_cases e : t = u
    · rw [if_pos e] at ht; cases ht
    · rw [if_neg e] at ht; exact ht
  have htag := hup.tags
  refine ⟨g.add u .nil, ⟨⟨h.ok.bel, h.ok.jle, h.ok.jold, h.ok.im, fun t b cap ht => h.ok.own t b cap (hblk _ _ _ ht), fun t t' b c1 c2 h1 h2 => h.ok.inj t t' b c1 c2 (hblk _ _ _ h1) (hblk _ _ _ h2)⟩, h.slots.on h.sdep h.conts hle, fun x hx => ?_, fun t ht => ?_, ?_, fun x hx => ?_, fun x hx => ?_, h.defers, h.size⟩⟩
  · rcases List.mem_cons.1 hx with rfl | hx
    · exact ⟨_, Gh.add_same _ _ _, rfl, rfl⟩
    · rcases hup.mem h.nodup x hx with rfl | ⟨hx, _⟩
      · obtain ⟨b, h1, cs, ty, h2, h3⟩ := h.conts _ hl.mem
        refine ⟨b, hle.2 _ _ h1, cs, ty, h2, ?_⟩
        have hmono : allK (g.add u .nil) ks cs.toList := by
          have : ∀ {ls : List Know} {vs : List Value}, (∀ k ∈ ls, ∃ d, KDep k d ∧ ∀ t ∈ d, t ∈ tags M) → allK g ls vs → allK (g.add u .nil) ls vs := by
            intro ls
            induction ls with
            | nil => intro vs _ h; cases vs <;> exact h
            | cons k ls ih =>
              intro vs hk hh
              cases vs with
              | nil => exact hh.elim
              | cons x vs =>
                obtain ⟨d, q1, q2⟩ := hk k List.mem_cons_self
                exact ⟨know_on h.conts hle q1 q2 hh.1, ih (fun z hz => hk z (List.mem_cons_of_mem _ hz)) hh.2⟩
          exact this hdk h3
        obtain ⟨x, hx1, hx2⟩ := allK_get h3 ho
        have hx2 : x = .slice none 0 0 := hx2
        have := allK_set hmono o (k := kOsl u 0) (v := x) (.inl ⟨Gh.add_same _ _ _, rfl, hx2⟩)
        rw [he]
        have hcs : cs.toList.set o x = cs.toList := by
          refine List.ext_getElem? fun j => ?_
          by_cases e : o = j
          · subst e
            rw [List.getElem?_set_self (List.getElem?_eq_some_iff.1 hx1).1, hx1]
          · rw [List.getElem?_set_ne e]
        rwa [hcs] at this
      · obtain ⟨b, h1, h2⟩ := h.conts x hx
        exact ⟨b, hle.2 _ _ h1, (h.cdep x hx).1.dep hle.1 (fun t ht => by obtain ⟨b, hb⟩ := h.conts.tag ((h.cdep x hx).2 t ht); rw [hb]; exact hle.2 t b hb) h2⟩
  · by_cases e' : t = u
    · subst e'; exact List.mem_cons_self
    · have : g.M t ≠ none := by simpa [Gh.add, e'] using ht
      have := h.dom t this
      exact List.mem_cons_of_mem _ (by show t ∈ tags M1; rw [htag]; exact this)
  · refine List.nodup_cons.2 ⟨?_, ?_⟩
    · show u ∉ tags M1
      rw [htag]; exact hfresh
    · show (tags M1).Nodup
      rw [htag]; exact h.nodup
  · exact ⟨(h.sdep x hx).1, fun t ht => List.mem_cons_of_mem _ (by show t ∈ tags M1; rw [htag]; exact (h.sdep x hx).2 t ht)⟩
  · rcases List.mem_cons.1 hx with rfl | hx
    · exact ⟨inferInstance, fun _ h => by cases h⟩
    · rcases hup.mem h.nodup x hx with rfl | ⟨hx, _⟩
      · refine ⟨hd, fun t ht => ?_⟩
        have := subT_spec hs t ht
        rcases List.mem_cons.1 this with rfl | this
        · exact List.mem_cons_self
        · exact List.mem_cons_of_mem _ (by show t ∈ tags M1; rw [htag]; exact this)
      · exact ⟨(h.cdep x hx).1, fun t ht => List.mem_cons_of_mem _ (by show t ∈ tags M1; rw [htag]; exact (h.cdep x hx).2 t ht)⟩
/-- All of these hang on tags of the list alone. -/
class KsAll (ks : List Know) (L : List Nat) : Prop where
  all : ∀ k ∈ ks, ∃ d, KDep k d ∧ ∀ t ∈ d, t ∈ L
instance {L : List Nat} : KsAll [] L := ⟨fun _ h => by cases h⟩
theorem KsAll.cons {k : Know} {ks : List Know} {L d : List Nat} (h : KDep k d) (hd : subT d L = true) (r : KsAll ks L) : KsAll (k :: ks) L := ⟨fun x hx => by
  rcases List.mem_cons.1 hx with rfl | hx
  · exact ⟨d, h, subT_spec hd⟩
  · exact r.all x hx⟩
/-! ### 3. Maps from integers to integers -/
def cMapI (xs : List Int) (ys : List Int) : Cont := fun g b o => xs.length = ys.length ∧ cMap (xs.map (Value.int .i64)) (ys.map fun y => kI y) g b o
theorem allK_ints {g g' : Gh} : ∀ {ys : List Int} {vs : List Value}, allK g (ys.map fun y => kI y) vs → allK g' (ys.map fun y => kI y) vs
  | [], [], h => h
  | _ :: ys, _ :: vs, h => ⟨h.1, allK_ints (ys := ys) (vs := vs) h.2⟩
  | [], _ :: _, h => h.elim
  | _ :: _, [], h => h.elim
instance {xs ys : List Int} : CDep (cMapI xs ys) [] := ⟨fun _ _ ⟨h0, h1, es, cl, h2, h3, h4⟩ => ⟨h0, h1, es, cl, h2, h3, allK_ints h4⟩⟩
instance (ys : List Int) : KsDep (ys.map fun y => kI y) [] := ⟨fun _ _ h => allK_ints h⟩
section
variable {P : Program} {c : Ctx} {ops : Array Oper} {S : Slots} {M M' : Conts} {rest : List Oper} {Q : Exit → Act → World → Prop}
variable {p : Bool} {d : Option Tmp} {ty : TypeId} {pos : String} {af : Array Edge} {gd : Option (Nat × Bool)} {x y z : Operand} {b b' : Bool} {code : Code}
theorem TrL.wkC (v : Nat) {ks ls : List Know} {dep dep' : List Nat} [hl : LkM M v (cBlk ks) dep] (hw : Wk ks ls) [hd : KsDep ls dep'] [hup : UpM M v (cBlk ls) dep' M'] (hs : subT dep' (tags M) = true) (K : TrL P c ops S M' rest Q) : TrL P c ops S M rest Q :=
  fun a g w h => K a g w (h.conC (ct := cBlk ks) (fun _ _ _ ⟨cs, ty, h1, h2⟩ => ⟨cs, ty, h1, hw.imp h2⟩) inferInstance hup (subT_spec hs))
theorem Tr.growC (v o u : Nat) {ks : List Know} {dep dep' : List Nat} [hl : LkM M v (cBlk ks) dep] (ho : ks[o]? = some (kDet (.slice none 0 0))) {ks' : List Know} (he : ks' = ks.set o (kOsl u 0)) [hd : KsDep ks' dep'] [hup : UpM M v (cBlk ks') dep' M']
    (hf : subT [u] (tags M) = false) {α : Type} (et : TypeId) (e : Enc α) (hs : subT dep' (u :: tags M) = true) (hk : KsAll ks (tags M)) (K : Tr P c S (⟨u, [], cArr true et e [] 0⟩ :: M') code Q) : Tr P c S M code Q :=
  fun a _ w h => let ⟨g', h'⟩ := h.growC v o u ho he inferInstance hup hf et e hs hk.all; K a g' w h'
end
end Go.Fl

/- Contracts: cycles, parts; the law of checks. -/
namespace Go.Fl
open Go Go.Proofs

instance : NB 111 112 := ⟨rfl⟩
end Go.Fl

/- Vertices of corners, horizontal saddle connections. Plain Lean, no program in sight. -/
namespace Go.Fl
/-! ### Which row of a list of disjoint rows an element is on -/
theorem row_uniq {L : List (List Int)} (h : L.flatten.Nodup) {i k : Nat} (hi : i < L.length) (hk : k < L.length) {x : Int} (h1 : x ∈ nth L i) (h2 : x ∈ nth L k) : i = k := by
  have hp := (List.pairwise_flatten.1 h).2
  rw [List.pairwise_iff_getElem] at hp
  have e : ∀ {j : Nat} (hj : j < L.length), nth L j = L[j] := fun hj => nth_of_get? (List.getElem?_eq_getElem hj)
  rw [e hi] at h1; rw [e hk] at h2
  rcases Nat.lt_trichotomy i k with hlt | heq | hgt
  · exact absurd rfl (hp i k hi hk hlt x h1 x h2)
  · exact heq
  · exact absurd rfl (hp k i hk hi hgt x h2 x h1)
/-- Rows that are written into a list, each with its value. -/
def rowTo (L : List (List Int)) (F : Nat → Int) (n : Nat) : Nat → List Int
  | 0 => List.replicate n 0
  | k + 1 => setC (rowTo L F n k) (nth L k) (F k)
theorem rowTo_len {L : List (List Int)} {F : Nat → Int} {n : Nat} : ∀ {k : Nat}, (rowTo L F n k).length = n
  | 0 => by simp [rowTo]
  | k + 1 => by rw [rowTo, setC_len, rowTo_len]
theorem nth_rowTo {L : List (List Int)} {F : Nat → Int} {n : Nat} (h : L.flatten.Nodup) (h0 : ∀ x ∈ L.flatten, 0 ≤ x) {i j : Nat} (hi : i < L.length) (hj : j < n) (hx : (j : Int) ∈ nth L i) : ∀ {k : Nat}, k ≤ L.length → nth (rowTo L F n k) j = if i < k then F i else 0
  | 0, _ => by rw [if_neg (by omega)]; unfold rowTo; exact nth_rep hj
  | k + 1, hk => by
    rw [rowTo, nth_setC (fun x hx => h0 x (List.mem_flatten.2 ⟨_, nth_mem (show k < L.length by omega), hx⟩)) (by rw [rowTo_len]; exact hj)]
    by_cases e : i = k
    · subst e; rw [if_pos hx, if_pos (by omega)]
    · rw [if_neg (fun hh => e (row_uniq h hi (by omega) hx hh)), nth_rowTo h h0 hi hj hx (by omega)]
      by_cases h2 : i < k
      · rw [if_pos h2, if_pos (by omega)]
      · rw [if_neg h2, if_neg (by omega)]
/-! ### Orders and vertices of squares -/
def lenM (L : List (List Int)) (i : Nat) : Int := ((nth L i).length : Int) - 1
def ordV (o : Ori) : List Int := rowTo (vtx o) (lenM (vtx o)) o.1.length (vtx o).length
/-- The order of the lower left corner. -/
def ordF (o : Ori) (x : Int) : Int := ((orb (comm o) x).length : Int) - 1
theorem vtx_has {o : Ori} (v : Valid o) {x : Int} (hx : Sq o.1.length x) : ∃ i, i < (vtx o).length ∧ x ∈ nth (vtx o) i := by
  have h := (flat_perm v.pC v.pos).mem_iff.2 (mem_sqs.2 hx)
  obtain ⟨c, hc, hm⟩ := List.mem_flatten.1 h
  obtain ⟨i, hi, rfl⟩ := List.getElem_of_mem hc
  exact ⟨i, hi, by rw [show nth (vtx o) i = (vtx o)[i] from nth_of_get? (List.getElem?_eq_getElem hi)]; exact hm⟩
theorem vtx_len_of {o : Ori} (v : Valid o) {i : Nat} (hi : i < (vtx o).length) {x : Int} (hx : x ∈ nth (vtx o) i) : ((nth (vtx o) i).length : Int) - 1 = ordF o x := by
  obtain ⟨j, hj, _, hc⟩ := v.pC.cycs_mem (Nat.le_refl _) (nth_mem (xs := vtx o) hi)
  unfold ordF
  rw [hc] at hx ⊢
  rw [orb_len, orb_len, per_orb v.pC (Sq.nat hj) hx]
theorem nth_ordV {o : Ori} (v : Valid o) {x : Int} (hx : Sq o.1.length x) : nth (ordV o) x.toNat = ordF o x := by
  obtain ⟨i, hi, hm⟩ := vtx_has v hx
  have e : ((x.toNat : Nat) : Int) = x := by have := hx.1; omega
  unfold ordV
  rw [nth_rowTo (vtx_good v).nodup (fun y hy => ((vtx_good v).rng y hy).1) hi (by have := hx.1; have := hx.2; omega) (by rw [e]; exact hm) (Nat.le_refl _), if_pos hi]
  exact vtx_len_of v hi hm
theorem ordF_nonneg {o : Ori} (v : Valid o) {x : Int} (hx : Sq o.1.length x) : 0 ≤ ordF o x := by
  have := v.pC.pers hx
  unfold ordF; rw [orb_len]; omega
theorem ordF_zero {o : Ori} (v : Valid o) {x : Int} (hx : Sq o.1.length x) (h : ordF o x = 0) : ap (comm o) x = x := by
  unfold ordF at h
  rw [orb_len] at h
  have := (v.pC.pers hx).1
  rwa [show per (comm o) x = 1 by omega] at this
/-! ### Saddles -/
abbrev SadT := Int × Int × Int × Int × Int × Int
def posO (o : Ori) (x : Int) : Bool := decide (0 < ordF o x)
def sqL (o : Ori) (k : Nat) : List Int := (sqs k).filter (posO o)
/-- How far the next vertex of positive order is. -/
def nxtF (o : Ori) (x : Int) : Nat → Nat → Nat
  | 0, m => m
  | f + 1, m => if 0 < ordF o (it o.1 m x) then m else nxtF o x f (m + 1)
def sadN (o : Ori) (x : Int) : Nat := nxtF o x o.1.length 1
def sadF (o : Ori) (x : Int) : SadT :=
  (x, (sadN o x : Int), nth (vertL o) x.toNat, nth (vertL o) (it o.1 (sadN o x) x).toNat, atL (sqL o o.1.length) (it o.1 (sadN o x) x), atL (sqL o o.1.length) (ap o.2 (ap o.1 (ap (invL o.2) (it o.1 (sadN o x - 1) x)))))
def sadL (o : Ori) (k : Nat) : List SadT := (sqL o k).map (sadF o)
def sadT (o : Ori) (i : Nat) : List SadT := ((sqL o o.1.length).take i).map (sadF o)
end Go.Fl

/- Equal structs; how many keys a map has. No program in sight. -/
namespace Go.Fl
open Go Go.RowKit
/-- A struct type of k integers at which equality can be asked. -/
class TyInts (P : Program) (t : TypeId) (k : Nat) : Prop where
  grd : P.eqGuardType P.depth t = false
  eq : ∀ (xs : List Int) (w : World), xs.length = k → (Op.equalIn 10000 t (.agg (xs.map (Value.int .i64)).toArray) (.agg (xs.map (Value.int .i64)).toArray)).run P w = .ok true w
def intFld (P : Program) (k : Nat) (f : Field) : Bool := (match P.underlying f.type with | some (.int _) => true | _ => false) && decide (f.offset < k)
theorem eqFields_ints {P : Program} (d : Nat) (xs : List Int) (w : World) : ∀ (fs : List Field), fs.all (intFld P xs.length) = true → (Op.eqFields (d + 1) (xs.map (Value.int .i64)).toArray (xs.map (Value.int .i64)).toArray fs).run P w = .ok true w
  | [], _ => by simp [Op.eqFields]
  | f :: fs, h => by
    rw [List.all_cons, Bool.and_eq_true] at h
    obtain ⟨h1, h2⟩ := h
    have ih := eqFields_ints d xs w fs h2
    unfold intFld at h1
    rw [Bool.and_eq_true, decide_eq_true_eq] at h1
    obtain ⟨h3, h4⟩ := h1
    cases hu : P.underlying f.type with
    | none => rw [hu] at h3; cases h3
    | some td =>
      rw [hu] at h3
      cases td with
      | int k =>
        have hp : (part f.type (xs.map (Value.int .i64)).toArray f.offset).run P w = .ok (.int .i64 xs[f.offset]) w := by
          simp [part, isAgg, run_underlying hu, h4]
        rw [Op.eqFields]
        split
        · simp only [Sem.run_bind, hp, Result.andThen_ok, run_equalIn_int w d f.type .i64 k _ _ hu]
          simp [ih]
        · exact ih
      | _ => cases h3
theorem TyInts.mk' {P : Program} {t : TypeId} {k : Nat} (h1 : P.eqGuardType P.depth t = false) (h2 : P.underlying t = some (.struct (P.fieldsOf t))) (h3 : P.stoodInHeld t = false) (h4 : (P.fieldsOf t).toList.all (intFld P k) = true) : TyInts P t k :=
  ⟨h1, fun xs w hl => by
    subst hl
    rw [show (10000 : Nat) = 9999 + 1 from rfl, run_equalIn_struct w 9999 t _ _ h2 h3]
    exact eqFields_ints 9998 xs w _ h4⟩
section
variable {P : Program} {c : Ctx} {S : Slots} {M : Conts} {p : Bool} {d : Option Tmp} {ty : TypeId} {pos : String} {af : Array Edge} {gd : Option (Nat × Bool)} {x y : Operand} {b b' : Bool}
end
end Go.Fl

/- Contracts: saddles. -/
namespace Go.Fl
open Go Go.Proofs

def eSad : Enc SadT := eC (fun v : SadT => (v.1, v.2.1, v.2.2.1, v.2.2.2.1, v.2.2.2.2.1, v.2.2.2.2.2, ())) (eP eI (eP eI (eP eI (eP eI (eP eI (eP eI eU))))))
instance {v : SadT} : CellsK (kRd eSad v) [kI (v.1), kI (v.2.1), kI (v.2.2.1), kI (v.2.2.2.1), kI (v.2.2.2.2.1), kI (v.2.2.2.2.2)] := inferInstanceAs (CellsK (kRd (eC (fun v : SadT => (v.1, v.2.1, v.2.2.1, v.2.2.2.1, v.2.2.2.2.1, v.2.2.2.2.2, ())) (eP eI (eP eI (eP eI (eP eI (eP eI (eP eI eU))))))) v) _)
instance {v : SadT} {tl : List Know} : EncCells eSad v tl (kI (v.1) :: kI (v.2.1) :: kI (v.2.2.1) :: kI (v.2.2.2.1) :: kI (v.2.2.2.2.1) :: kI (v.2.2.2.2.2) :: tl) := inferInstanceAs (EncCells (eC (fun v : SadT => (v.1, v.2.1, v.2.2.1, v.2.2.2.1, v.2.2.2.2.1, v.2.2.2.2.2, ())) (eP eI (eP eI (eP eI (eP eI (eP eI (eP eI eU))))))) v tl _)
instance {v : SadT} : Norm eSad v (kRd eSad v) := ⟨fun h => h⟩
instance {v : SadT} : FieldP eSad v 0 eI (v.1) 0 := inferInstanceAs (FieldP (eC (fun v : SadT => (v.1, v.2.1, v.2.2.1, v.2.2.2.1, v.2.2.2.2.1, v.2.2.2.2.2, ())) (eP eI (eP eI (eP eI (eP eI (eP eI (eP eI eU))))))) v 0 _ _ _)
instance {v : SadT} : FieldP eSad v 1 eI (v.2.1) 1 := inferInstanceAs (FieldP (eC (fun v : SadT => (v.1, v.2.1, v.2.2.1, v.2.2.2.1, v.2.2.2.2.1, v.2.2.2.2.2, ())) (eP eI (eP eI (eP eI (eP eI (eP eI (eP eI eU))))))) v 1 _ _ _)
instance {v : SadT} : FieldP eSad v 2 eI (v.2.2.1) 2 := inferInstanceAs (FieldP (eC (fun v : SadT => (v.1, v.2.1, v.2.2.1, v.2.2.2.1, v.2.2.2.2.1, v.2.2.2.2.2, ())) (eP eI (eP eI (eP eI (eP eI (eP eI (eP eI eU))))))) v 2 _ _ _)
instance {v : SadT} : FieldP eSad v 3 eI (v.2.2.2.1) 3 := inferInstanceAs (FieldP (eC (fun v : SadT => (v.1, v.2.1, v.2.2.1, v.2.2.2.1, v.2.2.2.2.1, v.2.2.2.2.2, ())) (eP eI (eP eI (eP eI (eP eI (eP eI (eP eI eU))))))) v 3 _ _ _)
instance {v : SadT} : FieldP eSad v 4 eI (v.2.2.2.2.1) 4 := inferInstanceAs (FieldP (eC (fun v : SadT => (v.1, v.2.1, v.2.2.1, v.2.2.2.1, v.2.2.2.2.1, v.2.2.2.2.2, ())) (eP eI (eP eI (eP eI (eP eI (eP eI (eP eI eU))))))) v 4 _ _ _)
instance {v : SadT} : FieldP eSad v 5 eI (v.2.2.2.2.2) 5 := inferInstanceAs (FieldP (eC (fun v : SadT => (v.1, v.2.1, v.2.2.1, v.2.2.2.1, v.2.2.2.2.1, v.2.2.2.2.2, ())) (eP eI (eP eI (eP eI (eP eI (eP eI (eP eI eU))))))) v 5 _ _ _)
instance {ks r : List Know} {a b c d e f : Int} [h : RdOf ks (eP eI (eP eI (eP eI (eP eI (eP eI (eP eI eU)))))) (a, b, c, d, e, f, ()) r] : RdOf ks eSad ((a, b, c, d, e, f)) r := ⟨fun h' => h.imp h'⟩

set_option maxRecDepth 100000 in
theorem ct_orders (o : Ori) (v : Valid o) : Ct Try.prog 32 [kRd eO o] (kTup [kRd (eL eI) (ordV o), kRd (eL eI) (vertL o)]) := by
  have hv0 := v.pos
  have hv1 := v.len
  have hv2 := v.le
  have hvl := vtx_le (o := o)
  refine Ct.mk Try.func32 rfl Try.ntmps32 rfl (fun w J => ?_)
  refine Tr.seq ?_
  refine Tr.rg ?_
  refine TrL.new (ok_box 1 rfl (fun _ => rfl) rfl) rfl rfl rfl rfl ?_
  refine TrL.op (ok_assign rfl (fun _ => rfl)) rfl rfl ?_
  refine TrL.op (ok_assign rfl (fun _ => rfl)) rfl rfl ?_
  refine TrL.fin ?_
  refine End.nxt ?_
  refine Tr.seq ?_
  refine Tr.draw 9 mixed (by kernel_rfl) ?_
  refine RunD.op (ok_fldO rfl (fun _ => rfl)) rfl rfl ?_
  refine RunD.op (ok_ldB rfl (fun _ => rfl) rfl) rfl rfl ?_
  refine RunD.op (ok_lenJ rfl (fun _ => rfl)) rfl rfl ?_
  refine RunD.new (ok_makeN eI 11 rfl (fun _ => rfl) rfl (fun _ => rfl) rfl rfl rfl (fun _ => by omega)) rfl rfl rfl rfl ?_
  refine RunD.op (ok_fldO rfl (fun _ => rfl)) rfl rfl ?_
  refine RunD.op (ok_ldB rfl (fun _ => rfl) rfl) rfl rfl ?_
  refine RunD.op (ok_lenJ rfl (fun _ => rfl)) rfl rfl ?_
  refine RunD.new (ok_makeN eI 15 rfl (fun _ => rfl) rfl (fun _ => rfl) rfl rfl rfl (fun _ => by omega)) rfl rfl rfl rfl ?_
  refine RunD.opN (ok_assign rfl (fun _ => rfl)) rfl rfl ?_
  refine RunD.z ?_
  refine TrL.op (ok_assign rfl (fun _ => rfl)) rfl rfl ?_
  refine TrL.fin ?_
  refine End.nxt ?_
  refine Tr.seq ?_
  refine Tr.seq ?_
  refine Tr.rg ?_
  refine TrL.op (ok_ldBS rfl (fun _ => rfl)) rfl rfl ?_
  refine TrL.op (ok_call (fun hp => ct_comm _ v) (.s rfl (fun _ => rfl) rfl <| .nil)) rfl rfl ?_
  refine TrL.op (ok_call (fun hp => ct_cycV o v) (.a rfl (fun _ => rfl) <| .nil)) rfl rfl ?_
  refine TrL.op (ok_lenJ rfl (fun _ => rfl)) rfl rfl ?_
  refine TrL.op (ok_move rfl (fun _ => rfl)) rfl rfl ?_
  refine TrL.fin ?_
  refine End.nxt ?_
  refine Tr.for1 (σ := Nat) [⟨2, true, _, _⟩, ⟨3, true, _, _⟩, ⟨18, true, _, _⟩, ⟨19, true, _, _⟩] [] (fun k => [⟨20, true, [], kI (k : Int)⟩]) (fun k => [⟨11, [], cArr false 3 eI (rowTo (vtx o) (lenM (vtx o)) o.1.length k) o.1.length⟩, ⟨15, [], cArr false 3 eI (vertTo (vtx o) o.1.length k) o.1.length⟩]) (fun k => k ≤ (vtx o).length) (fun k => k = (vtx o).length) (fun k => (vtx o).length - k) (0) (Nat.zero_le _) (Ent.mk (.i rfl (by first | rfl | omega | (simp; done) | (simp; omega) | assumption) <| .k rfl rfl <| .k rfl rfl <| .k rfl rfl <| .k rfl rfl <| .nil) (.a (by rfl) (by first | rfl | omega | (simp; done) | (simp; omega) | assumption) <| .a (by rfl) (by first | rfl | omega | (simp; done) | (simp; omega) | assumption) <| .nil) rfl) ?_ ?_
  · intro k hR0
    refine Tr.norm (S' := [⟨20, true, _, _⟩, ⟨2, true, _, _⟩, ⟨3, true, _, _⟩, ⟨18, true, _, _⟩, ⟨19, true, _, _⟩]) (M' := [⟨11, _, _⟩, ⟨15, _, _⟩]) rfl rfl ?_
    have hrl := fun h => vtx_row_len v (k := k) h
    refine Tr.seq ?_
    refine Tr.rg ?_
    refine TrL.op (ok_lss rfl (fun _ => rfl) rfl (fun _ => rfl)) rfl rfl ?_
    refine TrL.fin ?_
    refine End.nxt ?_
    refine Tr.seq ?_
    refine Tr.cnd rfl ?_ ?_
    · intro h3
      replace h3 := of_decide_eq_true h3
      refine Tr.skip ?_
      refine End.nxt ?_
      refine Tr.seq ?_
      refine Tr.blk ?_
      refine Tr.seq ?_
      refine Tr.rg ?_
      have hrl2 := hrl (by omega)
      refine TrL.op (ok_move rfl (fun _ => rfl)) rfl rfl ?_
      first | refine TrL.op (ok_idxN rfl (fun _ => rfl) rfl (fun _ => rfl) rfl (fun _ => by omega)) rfl rfl ?_ | refine TrL.op (ok_idxP rfl (fun _ => rfl) rfl (fun _ => rfl) rfl (fun _ => by omega)) rfl rfl ?_
      refine TrL.op (ok_ldP rfl (fun _ => rfl) rfl) rfl rfl ?_
      refine TrL.op (ok_assign rfl (fun _ => rfl)) rfl rfl ?_
      refine TrL.op (ok_assign rfl (fun _ => rfl)) rfl rfl ?_
      refine TrL.fin ?_
      refine End.nxt ?_
      refine Tr.seq ?_
      refine Tr.rg ?_
      refine TrL.op (ok_move rfl (fun _ => rfl)) rfl rfl ?_
      refine TrL.op (ok_lenJ rfl (fun _ => rfl)) rfl rfl ?_
      refine TrL.op (ok_move rfl (fun _ => rfl)) rfl rfl ?_
      refine TrL.fin ?_
      refine End.nxt ?_
      refine Tr.for1 (σ := Nat) [⟨2, true, _, _⟩, ⟨3, true, _, _⟩, ⟨4, true, _, _⟩, ⟨5, true, _, _⟩, ⟨18, true, _, _⟩, ⟨19, true, _, _⟩, ⟨20, true, _, _⟩, ⟨25, true, _, _⟩, ⟨26, true, _, _⟩] [] (fun i => [⟨27, true, [], kI (i : Int)⟩]) (fun i => [⟨11, [], cArr false 3 eI (setC (rowTo (vtx o) (lenM (vtx o)) o.1.length k) ((nth (vtx o) k).take i) (lenM (vtx o) k)) o.1.length⟩, ⟨15, [], cArr false 3 eI (setC (vertTo (vtx o) o.1.length k) ((nth (vtx o) k).take i) k) o.1.length⟩]) (fun i => i ≤ (nth (vtx o) k).length) (fun i => i = (nth (vtx o) k).length) (fun i => (nth (vtx o) k).length - i) (0) (Nat.zero_le _) (Ent.mk (.i rfl (by first | rfl | omega | (simp; done) | (simp; omega) | assumption) <| .k rfl rfl <| .k rfl rfl <| .k rfl rfl <| .k rfl rfl <| .k rfl rfl <| .k rfl rfl <| .k rfl rfl <| .k rfl rfl <| .k rfl rfl <| .nil) (.a (by rw [List.take_zero]; rfl) (by first | rfl | omega | (simp; done) | (simp; omega) | assumption) <| .a (by rw [List.take_zero]; rfl) (by first | rfl | omega | (simp; done) | (simp; omega) | assumption) <| .nil) rfl) ?_ ?_
      · intro i hR1
        refine Tr.norm (S' := [⟨27, true, _, _⟩, ⟨2, true, _, _⟩, ⟨3, true, _, _⟩, ⟨4, true, _, _⟩, ⟨5, true, _, _⟩, ⟨18, true, _, _⟩, ⟨19, true, _, _⟩, ⟨20, true, _, _⟩, ⟨25, true, _, _⟩, ⟨26, true, _, _⟩]) (M' := [⟨11, _, _⟩, ⟨15, _, _⟩]) rfl rfl ?_
        refine Tr.seq ?_
        refine Tr.rg ?_
        refine TrL.op (ok_lss rfl (fun _ => rfl) rfl (fun _ => rfl)) rfl rfl ?_
        refine TrL.fin ?_
        refine End.nxt ?_
        refine Tr.seq ?_
        refine Tr.cnd rfl ?_ ?_
        · intro h6
          replace h6 := of_decide_eq_true h6
          refine Tr.skip ?_
          refine End.nxt ?_
          refine Tr.seq ?_
          refine Tr.blk ?_
          refine Tr.seq ?_
          refine Tr.rg ?_
          have hvm := vtx_mem v (i := k) (j := i) (by omega) (by omega)
          first | refine TrL.op (ok_idxN rfl (fun _ => rfl) rfl (fun _ => rfl) rfl (fun _ => by omega)) rfl rfl ?_ | refine TrL.op (ok_idxP rfl (fun _ => rfl) rfl (fun _ => rfl) rfl (fun _ => by omega)) rfl rfl ?_
          refine TrL.op (ok_ldP rfl (fun _ => rfl) rfl) rfl rfl ?_
          refine TrL.op (ok_assign rfl (fun _ => rfl)) rfl rfl ?_
          refine TrL.fin ?_
          refine End.nxt ?_
          refine Tr.rg ?_
          refine TrL.op (ok_move rfl (fun _ => rfl)) rfl rfl ?_
          refine TrL.op (ok_move rfl (fun _ => rfl)) rfl rfl ?_
          refine TrL.op (ok_move rfl (fun _ => rfl)) rfl rfl ?_
          refine TrL.op (ok_move rfl (fun _ => rfl)) rfl rfl ?_
          refine TrL.op (ok_move rfl (fun _ => rfl)) rfl rfl ?_
          refine TrL.op (ok_lenJ rfl (fun _ => rfl)) rfl rfl ?_
          refine TrL.op (ok_sub rfl (fun _ => rfl) rfl (fun _ => rfl) (fun _ => by omega)) rfl rfl ?_
          refine TrL.op (ok_move rfl (fun _ => rfl)) rfl rfl ?_
          first | refine TrL.op (ok_idxEN rfl (fun _ => rfl) rfl (fun _ => rfl) (fun _ => by omega)) rfl rfl ?_ | refine TrL.op (ok_idxE rfl (fun _ => rfl) rfl (fun _ => rfl) (fun _ => by omega)) rfl rfl ?_
          refine TrL.stE rfl rfl rfl rfl rfl ?_
          first | refine TrL.op (ok_idxEN rfl (fun _ => rfl) rfl (fun _ => rfl) (fun _ => by omega)) rfl rfl ?_ | refine TrL.op (ok_idxE rfl (fun _ => rfl) rfl (fun _ => rfl) (fun _ => by omega)) rfl rfl ?_
          refine TrL.stE rfl rfl rfl rfl rfl ?_
          refine TrL.fin ?_
          refine End.blk ?_
          refine End.nxt ?_
          refine Tr.rg ?_
          refine TrL.op (ok_add rfl (fun _ => rfl) rfl (fun _ => rfl) (fun _ => by omega)) rfl rfl ?_
          refine TrL.op (ok_move rfl (fun _ => rfl)) rfl rfl ?_
          refine TrL.fin ?_
          exact End.lp (i + 1) (by first | rfl | omega | (simp; done) | (simp; omega) | assumption) (by omega) (Ent.mk (.i rfl (by first | rfl | omega | (simp; done) | (simp; omega) | assumption) <| .k rfl rfl <| .k rfl rfl <| .k rfl rfl <| .k rfl rfl <| .k rfl rfl <| .k rfl rfl <| .k rfl rfl <| .k rfl rfl <| .k rfl rfl <| .nil) (.a (by rw [take_succ_nth (by omega), setC_snoc]; rfl) (by first | rfl | omega | (simp; done) | (simp; omega) | assumption) <| .a (by rw [take_succ_nth (by omega), setC_snoc]) (by first | rfl | omega | (simp; done) | (simp; omega) | assumption) <| .nil) rfl)
        · intro h6
          replace h6 := Int.not_lt.1 (of_decide_eq_false h6)
          refine Tr.exit ?_
          refine Exs.thn ?_
          refine Exs.thn ?_
          refine Exs.here ?_
          exact End.cut (i) (by omega) (Ent.mk (.i rfl (by first | rfl | omega | (simp; done) | (simp; omega) | assumption) <| .k rfl rfl <| .k rfl rfl <| .k rfl rfl <| .k rfl rfl <| .k rfl rfl <| .k rfl rfl <| .k rfl rfl <| .k rfl rfl <| .k rfl rfl <| .nil) (.a (by first | rfl | omega | (simp; done) | (simp; omega) | assumption) (by first | rfl | omega | (simp; done) | (simp; omega) | assumption) <| .a (by first | rfl | omega | (simp; done) | (simp; omega) | assumption) (by first | rfl | omega | (simp; done) | (simp; omega) | assumption) <| .nil) rfl)
      · rintro _ rfl
        refine End.norm (S' := [⟨27, true, _, _⟩, ⟨2, true, _, _⟩, ⟨3, true, _, _⟩, ⟨4, true, _, _⟩, ⟨5, true, _, _⟩, ⟨18, true, _, _⟩, ⟨19, true, _, _⟩, ⟨20, true, _, _⟩, ⟨25, true, _, _⟩, ⟨26, true, _, _⟩]) (M' := [⟨11, _, _⟩, ⟨15, _, _⟩]) rfl rfl ?_
        refine End.blk ?_
        refine End.nxt ?_
        refine Tr.rg ?_
        refine TrL.op (ok_add rfl (fun _ => rfl) rfl (fun _ => rfl) (fun _ => by omega)) rfl rfl ?_
        refine TrL.op (ok_move rfl (fun _ => rfl)) rfl rfl ?_
        refine TrL.fin ?_
        exact End.lp (k + 1) (by first | rfl | omega | (simp; done) | (simp; omega) | assumption) (by omega) (Ent.mk (.i rfl (by first | rfl | omega | (simp; done) | (simp; omega) | assumption) <| .k rfl rfl <| .k rfl rfl <| .k rfl rfl <| .k rfl rfl <| .nil) (.a (by rw [List.take_length]; rfl) (by first | rfl | omega | (simp; done) | (simp; omega) | assumption) <| .a (by rw [List.take_length]; rfl) (by first | rfl | omega | (simp; done) | (simp; omega) | assumption) <| .nil) rfl)
    · intro h3
      replace h3 := Int.not_lt.1 (of_decide_eq_false h3)
      refine Tr.exit ?_
      refine Exs.thn ?_
      refine Exs.thn ?_
      refine Exs.here ?_
      exact End.cut (k) (by omega) (Ent.mk (.i rfl (by first | rfl | omega | (simp; done) | (simp; omega) | assumption) <| .k rfl rfl <| .k rfl rfl <| .k rfl rfl <| .k rfl rfl <| .nil) (.a (by first | rfl | omega | (simp; done) | (simp; omega) | assumption) (by first | rfl | omega | (simp; done) | (simp; omega) | assumption) <| .a (by first | rfl | omega | (simp; done) | (simp; omega) | assumption) (by first | rfl | omega | (simp; done) | (simp; omega) | assumption) <| .nil) rfl)
  · rintro _ rfl
    refine End.norm (S' := [⟨20, true, _, _⟩, ⟨2, true, _, _⟩, ⟨3, true, _, _⟩, ⟨18, true, _, _⟩, ⟨19, true, _, _⟩]) (M' := [⟨11, _, _⟩, ⟨15, _, _⟩]) rfl rfl ?_
    refine End.nxt ?_
    refine Tr.seq ?_
    refine Tr.rg ?_
    refine TrL.op (ok_move rfl (fun _ => rfl)) rfl rfl ?_
    refine TrL.op (ok_move rfl (fun _ => rfl)) rfl rfl ?_
    refine TrL.op (ok_assign rfl (fun _ => rfl)) rfl rfl ?_
    refine TrL.op (ok_assign rfl (fun _ => rfl)) rfl rfl ?_
    refine TrL.fin ?_
    refine End.nxt ?_
    refine Tr.frz 11 [2] ⟨rfl, trivial⟩ (by simp only [lenMax]; omega) rfl ?_
    refine Tr.frz 15 [3] ⟨rfl, trivial⟩ (by simp only [lenMax]; omega) rfl ?_
    refine Tr.ret ?_
    exact Rts.res (fn := Try.f32) (ts := [2, 3]) rfl rfl (.r rfl (by rfl) <| .r rfl (by rfl) <| .nil)

end Go.Fl

/- A row of the call's own may be lent to a call that only reads; regions that draw their order, some of whose operations write: what yields the same in any world may come first, the rest is gone through as it may come up. No program in sight. -/
namespace Go.Fl
open Go Go.RowKit

/-! ### 1. Lending -/
class KFree (k : Know) : Prop where
  go : ∀ {g g' : Gh} {v : Value}, k g v → k g' v
instance {v : Value} : KFree (kDet v) := ⟨fun h => h⟩
theorem allK_mono {J J' : JV} (hJ : J.le J') : ∀ {ks : List Know} {vs : List Value}, (∀ k ∈ ks, KDep k []) → allK ⟨J, noM⟩ ks vs → allK ⟨J', noM⟩ ks vs
  | [], [], _, _ => trivial
  | [], _ :: _, _, h => h.elim
  | _ :: _, [], _, h => h.elim
  | k :: ks, v :: vs, hk, h => ⟨(hk k List.mem_cons_self).dep (g := ⟨J, noM⟩) hJ (fun _ h => by cases h) h.1, allK_mono hJ (fun x hx => hk x (List.mem_cons_of_mem _ hx)) h.2⟩
section
variable {P : Program} {c : Ctx} {S : Slots} {M : Conts} {p : Bool} {d : Option Tmp} {ty : TypeId} {pos : String} {af : Array Edge} {gd : Option (Nat × Bool)}
variable {x y z : Operand} {b b' b'' : Bool}
end

/-! ### 2. Any order, gone through -/
def onlyN (Q : Exit → Act → World → Prop) : Exit → Act → World → Prop := fun e a w => e = .normal ∧ Q .normal a w
def Nx (K : Act → World → Prop) : Exit → Act → World → Prop := fun e a w => e = .normal ∧ K a w
def TrA (P : Program) (c : Ctx) (ops : Array Oper) (Q : Exit → Act → World → Prop) (Sp : World → Prop) (n : Nat) (listed : Array Bool) (S : Slots) (M : Conts) : Prop :=
  ∀ a g w, Sat c S M a g w → Sp w → wpAnyH P .any ops (onlyN Q) Sp n listed a w
/-- The operation yields one value in every world that meets Sp. -/
def YOk (P : Program) (c : Ctx) (S : Slots) (M : Conts) (Sp : World → Prop) (o : Oper) (k : Know) : Prop :=
  ∀ a g w, Sat c S M a g w → Sp w → ∃ v, (∀ w', Sp w' → (execOp a.eval o).run P w' = .ok (.value v) w') ∧ k g v
theorem Oper.wp_onN {P : Program} {o : Oper} {a : Act} {w : World} {K K' : Act → World → Prop} {Q : Exit → Act → World → Prop}
    (h : o.wp P a w K (Nx K')) : o.wp P a w K Q := by
  unfold Oper.wp at *
  generalize (execOp a.eval o).run P w = r at *
  cases r with
  | ok n w' =>
    cases n <;> simp only [Oper.upon] at h ⊢ <;>
      first
        | exact h
        | exact Calls.mono h (fun e w'' he => by
            cases e with
            | returned v => exact he
            | panicked ch => exact absurd he.1 (by simp)
            | outgrown => obtain ⟨_, _, hf⟩ := he; exact absurd hf.1 (by simp))
        | exact Rows.mono h (fun _ _ he => he)
        | exact absurd h.1 (by simp)
  | halt x w' =>
    cases x <;> simp only [Oper.upon] at h ⊢ <;> first | exact absurd h.1 (by simp) | exact h
section
variable {P : Program} {c : Ctx} {ops : Array Oper} {S : Slots} {M : Conts} {Q : Exit → Act → World → Prop} {Sp : World → Prop} {n : Nat} {listed : Array Bool}
variable {d : Nat} {oop : Op} {ty : TypeId} {pos : String} {af : Array Edge}
theorem TrA.take (i : Nat) (listed' : Array Bool) {k : Know} {dep : List Nat} (hs : Region.noSelect ops = true) (hf : Region.free .any ops listed i = true) (hr : (Region.ready .any ops listed).contains i = true) (hset : listed.setIfInBounds i true = listed')
    (hi : ops[i]? = some ⟨some d, oop, ty, pos, af, none⟩) (hy : YOk P c S M Sp ⟨some d, oop, ty, pos, af, none⟩ k) [hk : KDep k dep] (hsub : subT dep (tags M) = true) (hn : Nat.blt d c.n = true)
    (K : TrA P c ops Q Sp n listed' (⟨d, true, dep, k⟩ :: S) M) : TrA P c ops Q Sp (n + 1) listed S M := by
  intro a g w hsat hsp
  obtain ⟨v, h1, h2⟩ := hy a g w hsat hsp
  refine wpAnyH_take hi hs hf hr (fun _ _ _ h => absurd h.1 (by simp)) (.inl ⟨rfl, h1⟩) hsp ?_
  rw [hset]
  exact K _ g _ (hsat.did (Did.same hsat.ok h2) (fun _ h => by cases h) hk (subT_spec hsub) (by simpa [Nat.blt_eq] using hn)) hsp
theorem TrA.all (rs : List Nat) (hr : Region.ready .any ops listed = rs) (hne : rs ≠ [])
    (h : ∀ i ∈ rs, ∃ o, ops[i]? = some o ∧ TrL P c ops S M [o] (Nx fun a w => Sp w ∧ wpAnyH P .any ops (onlyN Q) Sp n (listed.setIfInBounds i true) a w)) : TrA P c ops Q Sp (n + 1) listed S M := by
  intro a g w hsat _
  refine wpAnyH_all hr hne fun i hi => ?_
  obtain ⟨o, ho, ht⟩ := h i hi
  have h1 := ht a g w hsat
  unfold wpOp
  rw [ho]
  simp only [wpList] at h1
  simp only
  split
  · rename_i hw
    rw [if_pos hw] at h1
    rcases h1 with h1 | ⟨_, _, _, h1⟩
    · exact .inl (Oper.wp_mono (fun _ _ h => h.2) (Oper.wp_onN h1))
    · exact absurd h1.1 (by simp)
  · rename_i hw
    rw [if_neg hw] at h1
    exact h1.2
theorem TrA.one (i : Nat) (hr : Region.ready .any ops listed = [i]) {o : Oper} (ho : ops[i]? = some o)
    (h : TrL P c ops S M [o] (Nx fun a w => Sp w ∧ wpAnyH P .any ops (onlyN Q) Sp n (listed.setIfInBounds i true) a w)) : TrA P c ops Q Sp (n + 1) listed S M :=
  TrA.all [i] hr (by simp) (fun j hj => by rw [List.mem_singleton] at hj; subst hj; exact ⟨o, ho, h⟩)
theorem TrA.k {listed0 : Array Bool} (listed' : Array Bool) (hl : listed0 = listed') (hSp : ∀ a g w, Sat c S M a g w → Sp w) (K : TrA P c ops Q Sp n listed' S M) : TrL P c ops S M [] (Nx fun a w => Sp w ∧ wpAnyH P .any ops (onlyN Q) Sp n listed0 a w) :=
  fun a g w hs => wpList_nil ⟨rfl, hSp a g w hs, by rw [hl]; exact K a g w hs (hSp a g w hs)⟩
theorem TrA.done (hr : Region.ready .any ops listed = []) (h : End c S M Q) : TrA P c ops Q Sp n listed S M := fun a g w hs _ => wpAnyH_done hr ⟨rfl, h a g w hs⟩ n
/-- A region that draws: from the first operation on. -/
theorem Tr.drawA {l : List Oper} {id : Nat} (hm : P.follows .mixedOrders = true) (listed' : Array Bool) (hl : Array.replicate l.length false = listed') (h : TrA P c l.toArray Q (fun _ => True) l.length listed' S M) : Tr P c S M (.region id l.toArray true) Q := by
  intro a g w hs
  subst hl
  exact Code.wp_mono (Q := onlyN Q) (fun e _ _ q => by obtain ⟨he, h⟩ := q; subst he; exact h) (wp_region_held hm (by simpa using h _ _ _ hs.drew trivial))
/-! ### 3. Blocks that nobody writes -/
def cPin (ct : Cont) (q : Bk × Option Obj) : Cont := fun g bk o => ct g bk o ∧ bk = q.1 ∧ o = q.2
instance {ct : Cont} {q : Bk × Option Obj} {dep : List Nat} [h : CDep ct dep] : CDep (cPin ct q) dep := ⟨fun hl hd ⟨h1, h2⟩ => ⟨h.dep hl hd h1, h2⟩⟩
def pinM (f : Nat → Bk × Option Obj) (M : Conts) : Conts := M.map fun e => ⟨e.t, e.dep, cPin e.c (f e.t)⟩
def pinS (f : Nat → Bk × Option Obj) (M : Conts) : World → Prop := fun w => ∀ e ∈ M, World.objAt w (f e.t).1 = (f e.t).2
end

/-! ### 4. What yields the same in any world -/
section
variable {P : Program} {c : Ctx} {S : Slots} {M : Conts} {Sp : World → Prop} {d : Option Tmp} {ty : TypeId} {pos : String} {af : Array Edge} {gd : Option (Nat × Bool)} {x y : Operand}
theorem y_move {k : Know} (hx : opK S x = some (true, k)) : YOk P c S M Sp ⟨d, .move x, ty, pos, af, gd⟩ k :=
  fun a g _ hs _ => ⟨a.eval x, fun _ _ => by simp [execOp], opK_holds hs.slots hx rfl⟩
theorem y_bin {op : BinOp} {t t' : TypeId} {u v r : Value} (hr : ∀ w, (do eqGuard op t x y u v; binOp op t u v : Sem Value).run P w = .ok r w) (hx : opK S x = some (true, kDet u)) (hy : opK S y = some (true, kDet v)) :
    YOk P c S M Sp ⟨d, .binOp op t x y t', ty, pos, af, gd⟩ (kDet r) := fun a g _ hs _ => by
  have h1 : a.eval x = u := opK_holds hs.slots hx rfl
  have h2 : a.eval y = v := opK_holds hs.slots hy rfl
  refine ⟨r, fun w _ => ?_, rfl⟩
  have := hr w
  simp only [Sem.run_bind] at this
  simp only [execOp, h1, h2, Sem.run_bind, this, Result.andThen_ok, Sem.run_pure]
theorem y_sub {t t' : TypeId} {m n : Int} (hx : opK S x = some (true, kI m)) (hy : opK S y = some (true, kI n)) (h : -9223372036854775808 ≤ m - n ∧ m - n ≤ 9223372036854775807) : YOk P c S M Sp ⟨d, .binOp .sub t x y t', ty, pos, af, gd⟩ (kI (m - n)) :=
  y_bin (fun w => by simp [go_sem, IntWalk.i64_in _ h]) hx hy
theorem y_mul {t t' : TypeId} {m n : Int} (hx : opK S x = some (true, kI m)) (hy : opK S y = some (true, kI n)) (h : -9223372036854775808 ≤ m * n ∧ m * n ≤ 9223372036854775807) : YOk P c S M Sp ⟨d, .binOp .mul t x y t', ty, pos, af, gd⟩ (kI (m * n)) :=
  y_bin (fun w => by simp [go_sem, IntWalk.i64_in _ h]) hx hy
theorem y_fldO {s : TypeId} {f off : Nat} [ht : TyFld P s f off] {t o : Nat} (hx : opK S x = some (true, kOwn t o)) : YOk P c S M Sp ⟨d, .fieldAddr s x f, ty, pos, af, gd⟩ (kOwn t (o + off)) := fun a g _ hs _ => by
  obtain ⟨bl, cap, h1, h2⟩ := opK_holds hs.slots hx rfl
  exact ⟨.pointer (some ⟨bl, o + off, none⟩), fun _ _ => by simp [execOp, h2, ht.run, Addr.add_lit], bl, cap, h1, rfl⟩
end
end Go.Fl

/- The search, one neighbour after the other. Plain Lean, no program in sight. -/
namespace Go.Fl
theorem srch_at {o : Ori} {F : List Int} {s : Int} {k j : Nat} (hk : k < (bfsTo o F s k).length) : nth (srch o F s k j) k = nth (bfsTo o F s k) k ∧ k < (srch o F s k j).length := by
  obtain ⟨r, hr⟩ := addL_pre (F := F) (ys := (stp o (nth (bfsTo o F s k) k)).take j) (l := bfsTo o F s k)
  unfold srch
  rw [hr]
  exact ⟨nth_app_l hk, by rw [List.length_append]; omega⟩
end Go.Fl

/- Contracts: the labels of the reference; the law of labels. -/
namespace Go.Fl
open Go Go.Proofs

instance : NB 9 12 := ⟨rfl⟩
end Go.Fl

/- Contracts: the label of the reference; the law of labels. -/
namespace Go.Fl
open Go Go.Proofs

end Go.Fl

/- Functions that change a block which the caller lends by a pointer: their walk. No program in sight. -/
namespace Go.Fl
open Go Go.RowKit

/-- A pointer into the call's own thing t, of which the block is known by name. -/
def kOwnAt (t o bl : Nat) : Know := fun g v => (∃ cap, g.M t = some (.blk bl cap)) ∧ v = .pointer (some ⟨bl, o, none⟩)
instance (t o bl : Nat) : KDep (kOwnAt t o bl) [t] := ⟨fun _ hd ⟨⟨cap, h1⟩, h2⟩ => ⟨⟨cap, (hd t (by simp)).trans h1⟩, h2⟩⟩
instance (t o bl : Nat) : KHas (kOwnAt t o bl) t := ⟨fun ⟨⟨cap, h1⟩, _⟩ => by rw [h1]; simp⟩
theorem kOwnAt.own {t o bl : Nat} {g : Gh} {v : Value} (h : kOwnAt t o bl g v) : kOwn t o g v := let ⟨⟨cap, h1⟩, h2⟩ := h; ⟨bl, cap, h1, h2⟩
section
variable {P : Program} {c : Ctx} {S : Slots} {M : Conts} {p : Bool} {d : Option Tmp} {ty : TypeId} {pos : String} {af : Array Edge} {gd : Option (Nat × Bool)} {x : Operand} {b : Bool} {Sp : World → Prop}
theorem ok_nilB {t o bl : Nat} (hx : opK S x = some (b, kOwnAt t o bl)) (hb : p = true → b = true) : OpOk P c S M ⟨d, .nilCheck x, ty, pos, af, gd⟩ p (kOwn t o) none :=
  OpOk.pure fun hp a g w _ _ ho => by
    have hk := ho x (by simp [Op.operands]) b _ hx (hb hp)
    exact ⟨a.eval x, by simp [execOp, hk.2], hk.own⟩
theorem y_nilB {t o bl : Nat} (hx : opK S x = some (true, kOwnAt t o bl)) : YOk P c S M Sp ⟨d, .nilCheck x, ty, pos, af, gd⟩ (kOwn t o) := fun a g _ hs _ => by
  have hk := opK_holds hs.slots hx rfl
  exact ⟨a.eval x, fun _ _ => by simp [execOp, hk.2], hk.own⟩
end
def RetB (w : World) (J : JV) (b cap : Nat) (res : Know) (ct' : Cont) : Ending → World → Prop := fun e w' => ∃ r J', e = .returned r ∧ But (.blk b cap) w w' ∧ J.le J' ∧ (∀ b' o, b' < w.heap.size → J' b' o = J b' o) ∧ Im J' w' ∧ res ⟨J', noM⟩ r ∧ ct' (g1 J' b cap) (.blk b cap) w'.heap[b]?
theorem allK_sameJ {g g' : Gh} (hJ : g.J.le g'.J) : ∀ {ks : List Know} {vs : List Value}, (∀ k ∈ ks, KDep k []) → allK g ks vs → allK g' ks vs
  | [], [], _, _ => trivial
  | [], _ :: _, _, h => h.elim
  | _ :: _, [], _, h => h.elim
  | k :: ks, v :: vs, hk, h => ⟨(hk k List.mem_cons_self).dep hJ (fun _ h => by cases h) h.1, allK_sameJ hJ (fun x hx => hk x (List.mem_cons_of_mem _ hx)) h.2⟩
theorem CtB.mk {P : Program} {f : FuncId} {fn : Func} {code : Code} {args : List Know} {res : Know} {ct ct' : Cont} {n : Nat} (hf : P.funcs[f]? = some fn) (hb : fn.body = some code) (hn : fn.ntmps = n) (hl : Nat.ble (args.length + 1) n = true) [hj : AllJ args] [hcd : CDep ct []]
    (h : ∀ w J b cap, Tr P ⟨w, J, [b], n⟩ (⟨0, true, [0], kOwnAt 0 0 b⟩ :: params 1 args) [⟨0, [], ct⟩] code (bodyPost P fn (RetB w J b cap res ct'))) : CtB P f (kOwn 0 0) args ct ct' res := by
  intro w J b cap him hJ hlt hct v vs hv hvs
  have hlen := allK_len hvs
  have hle : args.length + 1 ≤ n := Nat.le_of_ble_eq_true hl
  have hM : ∀ t bk, (g1 J b cap).M t = some bk → t = 0 ∧ bk = .blk b cap := fun t bk ht => by
    simp only [g1] at ht
    split at ht
    · rename_i e; cases ht; exact ⟨e, rfl⟩
    · cases ht
  refine calls_of_wp hf hb (h w J b cap _ (g1 J b cap) w ⟨⟨⟨rfl, rfl, rfl, Nat.le_refl _, fun _ _ _ => rfl, Nat.le_refl _⟩, JV.le_refl _, fun _ _ _ => rfl, him, fun t b' cap' ht => ?_, fun t t' b1 c1 c2 h1 h2 => ?_⟩, ?_, ?_, ?_, by simp, ?_, ?_, rfl, ?_⟩)
  · obtain ⟨_, e⟩ := hM _ _ ht
    cases e
    exact ⟨.inr (by simp), hlt, hJ⟩
  · rw [(hM _ _ h1).1, (hM _ _ h2).1]
  · intro t bb k hk
    simp only [look] at hk
    cases hb0 : Nat.beq 0 t with
    | true =>
      rw [hb0] at hk
      simp only [cond_true, Option.some.injEq, Prod.mk.injEq] at hk
      obtain ⟨rfl, rfl⟩ := hk
      have := Nat.eq_of_beq_eq_true hb0
      subst this
      refine ⟨fun _ => ?_, fun hf => (by cases hf)⟩
      obtain ⟨b', cap', h1, h2⟩ := hv
      obtain ⟨_, e⟩ := hM _ _ h1
      cases e
      have : ((v :: vs).toArray ++ Array.replicate (fn.ntmps - (v :: vs).toArray.size) undef).getD 0 undef = v := by
        rw [Array.getD_eq_getD_getElem?, Array.getElem?_append_left (by simp)]
        simp
      rw [this]
      exact ⟨⟨cap, by simp [g1]⟩, h2⟩
    | false =>
      rw [hb0] at hk
      obtain ⟨h1, rfl, u, hu, hku⟩ := params_hold (g := g1 J b cap) (allK_sameJ (g := ⟨J, noM⟩) (g' := g1 J b cap) (JV.le_refl _) hj.all hvs) hk
      refine ⟨fun _ => ?_, fun hf => (by cases hf)⟩
      have hu' : (v :: vs)[t]? = some u := by
        rw [show t = (t - 1) + 1 by omega]; simpa using hu
      have ht : t < (v :: vs).length := (List.getElem?_eq_some_iff.1 hu').1
      have : ((v :: vs).toArray ++ Array.replicate (fn.ntmps - (v :: vs).toArray.size) undef).getD t undef = u := by
        rw [Array.getD_eq_getD_getElem?, Array.getElem?_append_left (by simpa using ht)]
        simp only [List.getElem?_toArray]
        rw [hu']; rfl
      rw [this]; exact hku
  · intro e he
    simp only [List.mem_singleton] at he
    subst he
    exact ⟨_, by simp [g1], hct⟩
  · intro t ht
    cases hm : (g1 J b cap).M t with
    | none => exact absurd hm ht
    | some bk => simp [(hM _ _ hm).1]
  · intro e he
    rcases List.mem_cons.1 he with rfl | he
    · exact ⟨inferInstance, fun t ht => by simpa using ht⟩
    · obtain ⟨h1, h2⟩ := params_dep hj.all he
      exact ⟨h1, fun t ht => by rw [h2] at ht; cases ht⟩
  · intro e he
    simp only [List.mem_singleton] at he
    subst he
    exact ⟨hcd, fun t ht => by cases ht⟩
  · simp only [Array.size_append, List.size_toArray, Array.size_replicate, List.length_cons]; omega
section
variable {P : Program} {n : Nat} {w0 : World} {J0 : JV} {S : Slots} {M : Conts} {fn : Func} {b cap t : Nat} {ct ct' : Cont} {dep : List Nat}
theorem mutB_post {e : Exit} (he : e = .normal ∨ e = .ret) (hr : fn.results = #[]) (hl : look S t = some (true, kOwnAt 0 0 b)) [hm : LkM M 0 ct dep] (hc : ∀ g bk o, ct g bk o → ct' (g1 g.J b cap) (.blk b cap) o) (a : Act) (g : Gh) (w : World) (hs : Sat ⟨w0, J0, [b], n⟩ S M a g w) :
    bodyPost P fn (RetB w0 J0 b cap (kDet (.tuple #[])) ct') e a w := by
  obtain ⟨⟨cap', h1⟩, _⟩ := (hs.slots t _ _ hl).1 rfl
  obtain ⟨bk, h2, h3⟩ := hs.conts _ hm.mem
  simp only at h2 h3
  rw [h1] at h2; cases h2
  have key : a.defers = [] ∧ ∃ v, (results fn a.tmps).run P w = .ok v w ∧ RetB w0 J0 b cap (kDet (.tuple #[])) ct' (.returned v) w :=
    ⟨hs.defers, .tuple #[], by simp [results, hr], _, g.J, rfl, ⟨hs.ok.bel.os, hs.ok.bel.tape, hs.ok.bel.output, hs.ok.bel.size, fun k hk hne => hs.ok.bel.block k hk (by simp only [List.mem_singleton]; rintro rfl; exact hne cap rfl), hs.ok.bel.drawn⟩, hs.ok.jle, hs.ok.jold, hs.ok.im, rfl, hc _ _ _ h3⟩
  rcases he with rfl | rfl <;> exact key
theorem End.mutB (hr : fn.results = #[]) (hl : look S t = some (true, kOwnAt 0 0 b)) [hm : LkM M 0 ct dep] (hc : ∀ g bk o, ct g bk o → ct' (g1 g.J b cap) (.blk b cap) o) : End ⟨w0, J0, [b], n⟩ S M (bodyPost P fn (RetB w0 J0 b cap (kDet (.tuple #[])) ct')) :=
  fun a g w hs => mutB_post (.inl rfl) hr hl hc a g w hs
theorem Rts.mutB (hr : fn.results = #[]) (hl : look S t = some (true, kOwnAt 0 0 b)) [hm : LkM M 0 ct dep] (hc : ∀ g bk o, ct g bk o → ct' (g1 g.J b cap) (.blk b cap) o) : Rts ⟨w0, J0, [b], n⟩ S M (bodyPost P fn (RetB w0 J0 b cap (kDet (.tuple #[])) ct')) :=
  fun a g w hs => mutB_post (.inr rfl) hr hl hc a g w hs
end
class AllFree (ks : List Know) : Prop where
  all : ∀ k ∈ ks, KFree k
instance : AllFree [] := ⟨fun _ h => by cases h⟩
instance {k : Know} {ks : List Know} [h : KFree k] [hs : AllFree ks] : AllFree (k :: ks) := ⟨fun x hx => by
  rcases List.mem_cons.1 hx with rfl | hx
  · exact h
  · exact hs.all x hx⟩
theorem allK_free {g g' : Gh} : ∀ {ks : List Know} {vs : List Value}, (∀ k ∈ ks, KFree k) → allK g ks vs → allK g' ks vs
  | [], [], _, _ => trivial
  | [], _ :: _, _, h => h.elim
  | _ :: _, [], _, h => h.elim
  | _ :: _, _ :: _, hk, h => ⟨(hk _ List.mem_cons_self).go h.1, allK_free (fun x hx => hk x (List.mem_cons_of_mem _ hx)) h.2⟩
/-- What hangs on no memory. -/
theorem cBlk_go {ks : List Know} {g g' : Gh} {bk bk' : Bk} {o : Option Obj} [hf : AllFree ks] (h : cBlk ks g bk o) : cBlk ks g' bk' o :=
  let ⟨cs, ty, h1, h2⟩ := h; ⟨cs, ty, h1, allK_free hf.all h2⟩
end Go.Fl

/- Lattices in the plane of integers: the normal form is unique, a further vector. Plain Lean, no program in sight. -/
namespace Go.Fl
abbrev V2 := Int × Int
abbrev L3 := Int × Int × Int
/-- The lattice of (A, 0) and (B, C). -/
def InL (l : L3) (w : V2) : Prop := ∃ m n : Int, w.1 = m * l.1 + n * l.2.1 ∧ w.2 = n * l.2.2
structure NF (l : L3) : Prop where
  a : 0 ≤ l.1
  c : 0 ≤ l.2.2
  b : 0 < l.1 → 0 ≤ l.2.1 ∧ l.2.1 < l.1
  z : l.2.2 = 0 → l.2.1 = 0
theorem InL.zero {l : L3} : InL l (0, 0) := ⟨0, 0, by simp, by simp⟩
theorem InL.add {l : L3} {v w : V2} (h : InL l v) (k : InL l w) : InL l (v.1 + w.1, v.2 + w.2) := by
  obtain ⟨m, n, h1, h2⟩ := h
  obtain ⟨p, q, k1, k2⟩ := k
  refine ⟨m + p, n + q, ?_, ?_⟩
  · show v.1 + w.1 = _
    rw [h1, k1, Int.add_mul, Int.add_mul]; omega
  · show v.2 + w.2 = _
    rw [h2, k2, Int.add_mul]
theorem InL.smul {l : L3} {v : V2} (h : InL l v) (k : Int) : InL l (k * v.1, k * v.2) := by
  obtain ⟨m, n, h1, h2⟩ := h
  refine ⟨k * m, k * n, ?_, ?_⟩
  · show k * v.1 = _
    rw [h1, Int.mul_add, Int.mul_assoc, Int.mul_assoc]
  · show k * v.2 = _
    rw [h2, Int.mul_assoc]
theorem InL.A {l : L3} : InL l (l.1, 0) := ⟨1, 0, by simp, by simp⟩
theorem InL.B {l : L3} : InL l (l.2.1, l.2.2) := ⟨0, 1, by simp, by simp⟩
theorem InL.dvdC {l : L3} {w : V2} (h : InL l w) : l.2.2 ∣ w.2 := by
  obtain ⟨_, n, _, h2⟩ := h
  exact ⟨n, by rw [h2, Int.mul_comm]⟩
theorem InL.dvdA {l : L3} (nf : NF l) {x : Int} (h : InL l (x, 0)) : l.1 ∣ x := by
  obtain ⟨m, n, h1, h2⟩ := h
  simp only at h1 h2
  have : n * l.2.1 = 0 := by
    rcases Int.mul_eq_zero.1 h2.symm with e | e
    · rw [e, Int.zero_mul]
    · rw [nf.z e, Int.mul_zero]
  exact ⟨m, by rw [h1, this, Int.mul_comm]; omega⟩
theorem NF.uniq {l l' : L3} (h : NF l) (h' : NF l') (e : ∀ w, InL l w ↔ InL l' w) : l = l' := by
  have hC : l.2.2 = l'.2.2 := Int.dvd_antisymm h.c h'.c (InL.dvdC ((e _).2 InL.B)) (InL.dvdC ((e _).1 InL.B))
  have hA : l.1 = l'.1 := Int.dvd_antisymm h.a h'.a (InL.dvdA h ((e _).2 InL.A)) (InL.dvdA h' ((e _).1 InL.A))
  have hB : l.2.1 = l'.2.1 := by
    by_cases hz : l.2.2 = 0
    · rw [h.z hz, h'.z (hC ▸ hz)]
    · obtain ⟨m, n, h1, h2⟩ := (e (l.2.1, l.2.2)).1 InL.B
      simp only at h1 h2
      have hn : n = 1 := by
        rw [← hC] at h2
        have : (n - 1) * l.2.2 = 0 := by rw [Int.sub_mul, ← h2]; omega
        rcases Int.mul_eq_zero.1 this with q | q
        · omega
        · exact absurd q hz
      subst hn
      by_cases hA0 : l'.1 = 0
      · rw [hA0] at h1; omega
      · have hp : 0 < l'.1 := by have := h'.a; omega
        have b1 := h.b (hA ▸ hp)
        have b2 := h'.b hp
        rw [hA] at b1
        have hm : m = 0 := by
          rcases Int.lt_trichotomy m 0 with q | q | q
          · have : m * l'.1 ≤ (-1) * l'.1 := Int.mul_le_mul_of_nonneg_right (by omega) (by omega)
            omega
          · exact q
          · have : 1 * l'.1 ≤ m * l'.1 := Int.mul_le_mul_of_nonneg_right (by omega) (by omega)
            omega
        subst hm
        omega
  obtain ⟨a, b, c⟩ := l
  obtain ⟨a', b', c'⟩ := l'
  simp only at hA hB hC
  rw [hA, hB, hC]

/-! ### Any generators -/
theorem bezN (m n : Nat) : ∃ a b : Int, (Nat.gcd m n : Int) = m * a + n * b := by
  induction m, n using Nat.gcd.induction with
  | H0 n => exact ⟨0, 1, by simp⟩
  | H1 m n _ ih =>
    obtain ⟨a, b, e⟩ := ih
    refine ⟨b - (n / m : Nat) * a, a, ?_⟩
    rw [Nat.gcd_rec, e]
    have h : ((n % m : Nat) : Int) = n - m * (n / m : Nat) := by have := Nat.mod_add_div n m; have h2 : ((n % m + m * (n / m) : Nat) : Int) = n := by rw [this]
                                                                 push_cast at h2 ⊢; omega
    rw [h, Int.sub_mul, Int.mul_sub, Int.mul_assoc]
    omega
theorem bez (A x : Int) : ∃ a b : Int, (Int.gcd A x : Int) = A * a + x * b := by
  obtain ⟨a, b, e⟩ := bezN A.natAbs x.natAbs
  have key : ∀ (z c : Int), ∃ d : Int, (z.natAbs : Int) * c = z * d := fun z c => by
    rcases Int.natAbs_eq z with h | h
    · exact ⟨c, by rw [← h]⟩
    · exact ⟨-c, by rw [Int.mul_neg, ← Int.neg_mul]; conv => rhs; rw [h]; rw [Int.neg_neg]⟩
  obtain ⟨a', ha⟩ := key A a
  obtain ⟨b', hb⟩ := key x b
  exact ⟨a', b', by rw [show (Int.gcd A x : Int) = (Nat.gcd A.natAbs x.natAbs : Nat) from rfl, e, ha, hb]⟩
/-- The span of three vectors: a lattice with one vector more. -/
def Sp3 (A : Int) (v w : V2) (u : V2) : Prop := ∃ m n k : Int, u.1 = m * A + n * v.1 + k * w.1 ∧ u.2 = n * v.2 + k * w.2
/-- One step of Euclid's algorithm keeps the span. -/
theorem Sp3.step {A : Int} {v w : V2} (q : Int) (u : V2) : Sp3 A v w u ↔ Sp3 A w (v.1 - q * w.1, v.2 - q * w.2) u := by
  constructor
  · rintro ⟨m, n, k, h1, h2⟩
    refine ⟨m, k + q * n, n, ?_, ?_⟩
    · rw [h1]; simp only [Int.add_mul, Int.mul_sub]; rw [Int.mul_assoc q n, Int.mul_left_comm q n]; omega
    · rw [h2]; simp only [Int.add_mul, Int.mul_sub]; rw [Int.mul_assoc q n, Int.mul_left_comm q n]; omega
  · rintro ⟨m, n, k, h1, h2⟩
    refine ⟨m, k, n - q * k, ?_, ?_⟩
    · rw [h1]; simp only [Int.sub_mul, Int.mul_sub]; rw [Int.mul_assoc q k, Int.mul_left_comm q k]; omega
    · rw [h2]; simp only [Int.sub_mul, Int.mul_sub]; rw [Int.mul_assoc q k, Int.mul_left_comm q k]; omega
/-- At the end: the last vector is horizontal. -/
theorem Sp3.fin {A x : Int} {v : V2} (u : V2) : Sp3 A v (x, 0) u ↔ InL ((Int.gcd A x : Int), v.1, v.2) u := by
  constructor
  · rintro ⟨m, n, k, h1, h2⟩
    obtain ⟨a, ha⟩ := Int.gcd_dvd_left (a := A) (b := x)
    obtain ⟨b, hb⟩ := Int.gcd_dvd_right (a := A) (b := x)
    refine ⟨m * a + k * b, n, ?_, by simpa using h2⟩
    rw [h1]
    simp only
    rw [Int.add_mul, Int.mul_assoc, Int.mul_assoc, Int.mul_comm a, Int.mul_comm b, ← ha, ← hb]
    omega
  · rintro ⟨m, n, h1, h2⟩
    obtain ⟨a, b, e⟩ := bez A x
    refine ⟨m * a, n, m * b, ?_, by simpa using h2⟩
    rw [h1]
    simp only
    rw [e, Int.mul_add, Int.mul_assoc, Int.mul_assoc, Int.mul_comm A, Int.mul_comm x]
    omega
/-- The second vector may be turned round, and moved by the first. -/
theorem InL.neg {A B C : Int} (u : V2) : InL (A, B, C) u ↔ InL (A, -B, -C) u := by
  constructor
  · rintro ⟨m, n, h1, h2⟩
    exact ⟨m, -n, by rw [h1]; simp [Int.neg_mul, Int.mul_neg], by rw [h2]; simp [Int.neg_mul, Int.mul_neg]⟩
  · rintro ⟨m, n, h1, h2⟩
    exact ⟨m, -n, by rw [h1]; simp [Int.neg_mul, Int.mul_neg], by rw [h2]; simp [Int.neg_mul, Int.mul_neg]⟩
theorem InL.mod {A B C : Int} (u : V2) : InL (A, B, C) u ↔ InL (A, B % A, C) u := by
  have e := Int.emod_add_mul_ediv B A
  constructor
  · rintro ⟨m, n, h1, h2⟩
    refine ⟨m + n * (B / A), n, ?_, h2⟩
    rw [h1]; simp only
    rw [Int.add_mul, Int.mul_assoc, Int.mul_comm (B / A), ← Int.emod_add_mul_ediv B A, Int.mul_add]
    simp only [Int.emod_add_mul_ediv]
    omega
  · rintro ⟨m, n, h1, h2⟩
    refine ⟨m - n * (B / A), n, ?_, h2⟩
    rw [h1]; simp only
    have h3 : n * B = n * (B % A) + n * (A * (B / A)) := by rw [← Int.mul_add, e]
    rw [Int.sub_mul, Int.mul_assoc, Int.mul_comm (B / A), h3]
    omega

/-! ### The normal form is there -/
theorem nf_norm {A : Int} (hA : 0 ≤ A) (B C : Int) (h : C = 0 → B = 0) : ∃ l, NF l ∧ ∀ u, InL l u ↔ InL (A, B, C) u := by
  have main : ∀ B C : Int, 0 ≤ C → (C = 0 → B = 0) → ∃ l, NF l ∧ ∀ u, InL l u ↔ InL (A, B, C) u := fun B C hC h => by
    by_cases hz : A = 0
    · subst hz
      exact ⟨(0, B, C), ⟨Int.le_refl _, hC, fun hh => absurd hh (by simp), h⟩, fun _ => Iff.rfl⟩
    · refine ⟨(A, B % A, C), ⟨hA, hC, fun hp => ⟨Int.emod_nonneg _ hz, Int.emod_lt_of_pos _ hp⟩, fun hc => ?_⟩, fun u => (InL.mod u).symm⟩
      have : B = 0 := h hc
      show B % A = 0
      rw [this]; simp
  by_cases hC : 0 ≤ C
  · exact main B C hC h
  · obtain ⟨l, h1, h2⟩ := main (-B) (-C) (by omega) (by omega)
    exact ⟨l, h1, fun u => (h2 u).trans (InL.neg u).symm⟩
theorem nf_ex (A : Int) : ∀ (k : Nat) (v w : V2), w.2.natAbs ≤ k → ∃ l, NF l ∧ ∀ u, InL l u ↔ Sp3 A v w u := by
  have fin : ∀ (v w : V2), w.2 = 0 → ∃ l, NF l ∧ ∀ u, InL l u ↔ Sp3 A v w u := fun v w hw => by
    obtain ⟨x, y⟩ := w
    simp only at hw
    subst hw
    by_cases hC : v.2 = 0
    · obtain ⟨b, c⟩ := v
      simp only at hC
      subst hC
      obtain ⟨l, h1, h2⟩ := nf_norm (A := ((Int.gcd (Int.gcd A x : Int) b : Nat) : Int)) (Int.natCast_nonneg _) 0 0 (fun _ => rfl)
      refine ⟨l, h1, fun u => (h2 u).trans ((Sp3.fin (A := (Int.gcd A x : Int)) (x := b) (v := (0, 0)) u).symm.trans (Iff.trans ?_ (Sp3.fin u).symm))⟩
      constructor
      · rintro ⟨m, n, k, e1, e2⟩
        exact ⟨m, k, by rw [e1]; simp, by rw [e2]; simp⟩
      · rintro ⟨m, n, e1, e2⟩
        exact ⟨m, 0, n, by rw [e1]; simp, by rw [e2]; simp⟩
    · obtain ⟨l, h1, h2⟩ := nf_norm (A := ((Int.gcd A x : Nat) : Int)) (Int.natCast_nonneg _) v.1 v.2 (fun e => absurd e hC)
      exact ⟨l, h1, fun u => (h2 u).trans (Sp3.fin u).symm⟩
  intro k
  induction k with
  | zero => exact fun v w h => fin v w (by omega)
  | succ k ih =>
    intro v w h
    by_cases hw : w.2 = 0
    · exact fin v w hw
    · obtain ⟨l, h1, h2⟩ := ih w (v.1 - v.2 / w.2 * w.1, v.2 - v.2 / w.2 * w.2) (by
        show (v.2 - v.2 / w.2 * w.2).natAbs ≤ k
        have e : v.2 - v.2 / w.2 * w.2 = v.2 % w.2 := by have := Int.emod_add_mul_ediv v.2 w.2; rw [Int.mul_comm] at this; omega
        rw [e]
        have h3 := Int.emod_nonneg v.2 hw
        have h4 := Int.emod_lt v.2 hw
        omega)
      exact ⟨l, h1, fun u => (h2 u).trans (Sp3.step _ u).symm⟩
/-- The lattice, by what lies in it. -/
noncomputable def theL (S : V2 → Prop) : L3 := by
  classical exact if h : ∃ l, NF l ∧ ∀ w, InL l w ↔ S w then h.choose else (0, 0, 0)
theorem theL_eq {S : V2 → Prop} {l : L3} (h : NF l) (e : ∀ w, InL l w ↔ S w) : l = theL S := by
  have hx : ∃ l, NF l ∧ ∀ w, InL l w ↔ S w := ⟨l, h, e⟩
  unfold theL
  rw [dif_pos hx]
  exact h.uniq hx.choose_spec.1 fun w => (e w).trans (hx.choose_spec.2 w).symm
noncomputable def latA (l : L3) (v : V2) : L3 := theL (Sp3 l.1 (l.2.1, l.2.2) v)
theorem latA_spec (l : L3) (v : V2) : NF (latA l v) ∧ ∀ u, InL (latA l v) u ↔ Sp3 l.1 (l.2.1, l.2.2) v u := by
  obtain ⟨l', h1, h2⟩ := nf_ex l.1 _ (l.2.1, l.2.2) v (Nat.le_refl _)
  have := theL_eq h1 h2
  unfold latA
  rw [← this]; exact ⟨h1, h2⟩
theorem latA_eq {l l' : L3} {v : V2} (h : NF l') (e : ∀ u, InL l' u ↔ Sp3 l.1 (l.2.1, l.2.2) v u) : l' = latA l v := theL_eq h e
noncomputable def latL (vs : List V2) : L3 := vs.foldl latA (0, 0, 0)
theorem latL_snoc {vs : List V2} {v : V2} : latL (vs ++ [v]) = latA (latL vs) v := by simp [latL]
theorem nf_zero : NF (0, 0, 0) := ⟨Int.le_refl _, Int.le_refl _, fun h => absurd h (by simp), fun _ => rfl⟩
inductive Sp (D : V2 → Prop) : V2 → Prop
  | zero : Sp D (0, 0)
  | add {u d : V2} (k : Int) : Sp D u → D d → Sp D (u.1 + k * d.1, u.2 + k * d.2)
theorem Sp.gen {D : V2 → Prop} {d : V2} (h : D d) : Sp D d := by
  have := Sp.add 1 Sp.zero h
  simpa using this
theorem Sp.sum {D : V2 → Prop} {u v : V2} (hu : Sp D u) (hv : Sp D v) : Sp D (u.1 + v.1, u.2 + v.2) := by
  induction hv with
  | zero => simpa using hu
  | @add w d k _ hd ih =>
    have := Sp.add k ih hd
    simp only [Int.add_assoc] at this
    exact this
theorem Sp.smul {D : V2 → Prop} {u : V2} (k : Int) (hu : Sp D u) : Sp D (k * u.1, k * u.2) := by
  induction hu with
  | zero => simpa using Sp.zero
  | @add w d m _ hd ih =>
    have := Sp.add (k * m) ih hd
    simp only [Int.mul_add, ← Int.mul_assoc]
    exact this
theorem Sp.mono {D E : V2 → Prop} {u : V2} (h : ∀ d, D d → Sp E d) (hu : Sp D u) : Sp E u := by
  induction hu with
  | zero => exact Sp.zero
  | add k _ hd ih => exact Sp.sum ih (Sp.smul k (h _ hd))
theorem Sp3_iff {l : L3} {v u : V2} : Sp3 l.1 (l.2.1, l.2.2) v u ↔ ∃ p k, InL l p ∧ u = (p.1 + k * v.1, p.2 + k * v.2) := by
  constructor
  · rintro ⟨m, n, k, h1, h2⟩
    exact ⟨(m * l.1 + n * l.2.1, n * l.2.2), k, ⟨m, n, rfl, rfl⟩, Prod.ext h1 h2⟩
  · rintro ⟨p, k, ⟨m, n, h1, h2⟩, rfl⟩
    exact ⟨m, n, k, by simp only; rw [h1], by simp only; rw [h2]⟩
theorem latL_spec (vs : List V2) : NF (latL vs) ∧ ∀ u, InL (latL vs) u ↔ Sp (· ∈ vs) u := by
  suffices H : ∀ r : List V2, NF (latL r.reverse) ∧ ∀ u, InL (latL r.reverse) u ↔ Sp (· ∈ r.reverse) u by simpa using H vs.reverse
  intro r
  induction r with
  | nil =>
    refine ⟨nf_zero, fun u => ⟨?_, fun h => ?_⟩⟩
    · rintro ⟨m, n, h1, h2⟩
      have : u = (0, 0) := Prod.ext (by rw [h1]; simp [latL]) (by rw [h2]; simp [latL])
      rw [this]; exact Sp.zero
    · induction h with
      | zero => exact InL.zero
      | add k _ hd _ => simp at hd
  | cons v r ih =>
    rw [List.reverse_cons, latL_snoc]
    obtain ⟨h1, h2⟩ := latA_spec (latL r.reverse) v
    refine ⟨h1, fun u => (h2 u).trans (Sp3_iff.trans ⟨?_, fun h => ?_⟩)⟩
    · rintro ⟨p, k, hp, rfl⟩
      exact Sp.add k (((ih.2 p).1 hp).mono fun d hd => Sp.gen (List.mem_append_left _ hd)) (List.mem_append_right _ List.mem_cons_self)
    · have key : ∀ u, Sp (fun x => x ∈ r.reverse ++ [v]) u → ∃ p k, Sp (· ∈ r.reverse) p ∧ u = (p.1 + k * v.1, p.2 + k * v.2) := fun u hu => by
        induction hu with
        | zero => exact ⟨(0, 0), 0, Sp.zero, by simp⟩
        | @add w d m _ hd ih2 =>
          obtain ⟨p, k, hp, rfl⟩ := ih2
          rcases List.mem_append.1 hd with hd | hd
          · exact ⟨_, k, Sp.add m hp hd, by simp only [Prod.mk.injEq]; exact ⟨by omega, by omega⟩⟩
          · rw [List.mem_singleton] at hd
            subst hd
            exact ⟨p, k + m, hp, by simp only [Prod.mk.injEq, Int.add_mul]; exact ⟨by omega, by omega⟩⟩
      obtain ⟨p, k, hp, e⟩ := key u h
      exact ⟨p, k, (ih.2 p).2 hp, e⟩

/-! ### Potentials -/
def dfR (o : Ori) (p : Int → V2) (x : Int) : V2 := ((p x).1 + 1 - (p (ap o.1 x)).1, (p x).2 - (p (ap o.1 x)).2)
def dfU (o : Ori) (p : Int → V2) (x : Int) : V2 := ((p x).1 - (p (ap o.2 x)).1, (p x).2 + 1 - (p (ap o.2 x)).2)
def Df (o : Ori) (p : Int → V2) : V2 → Prop := fun d => ∃ x, Sq o.1.length x ∧ (d = dfR o p x ∨ d = dfU o p x)
inductive TreeP (o : Ori) (p : Int → V2) : Int → Prop
  | base : TreeP o p 0
  | r {x : Int} : Sq o.1.length x → TreeP o p x → p (ap o.1 x) = ((p x).1 + 1, (p x).2) → TreeP o p (ap o.1 x)
  | u {x : Int} : Sq o.1.length x → TreeP o p x → p (ap o.2 x) = ((p x).1, (p x).2 + 1) → TreeP o p (ap o.2 x)
structure PotT (o : Ori) (p : Int → V2) : Prop where
  zero : p 0 = (0, 0)
  tree : ∀ x, Sq o.1.length x → TreeP o p x
theorem TreeP.diff {o : Ori} {p q : Int → V2} (hp : p 0 = (0, 0)) (hq : q 0 = (0, 0)) {x : Int} (h : TreeP o q x) : Sp (Df o p) ((q x).1 - (p x).1, (q x).2 - (p x).2) := by
  induction h with
  | base => rw [hp, hq]; simpa using Sp.zero
  | @r x hx _ e ih =>
    have := Sp.sum ih (Sp.gen (D := Df o p) ⟨x, hx, .inl rfl⟩)
    rw [e]
    simp only [dfR] at this
    have e1 : (q x).1 - (p x).1 + ((p x).1 + 1 - (p (ap o.1 x)).1) = (q x).1 + 1 - (p (ap o.1 x)).1 := by omega
    have e2 : (q x).2 - (p x).2 + ((p x).2 - (p (ap o.1 x)).2) = (q x).2 - (p (ap o.1 x)).2 := by omega
    rw [e1, e2] at this
    exact this
  | @u x hx _ e ih =>
    have := Sp.sum ih (Sp.gen (D := Df o p) ⟨x, hx, .inr rfl⟩)
    rw [e]
    simp only [dfU] at this
    have e1 : (q x).1 - (p x).1 + ((p x).1 - (p (ap o.2 x)).1) = (q x).1 - (p (ap o.2 x)).1 := by omega
    have e2 : (q x).2 - (p x).2 + ((p x).2 + 1 - (p (ap o.2 x)).2) = (q x).2 + 1 - (p (ap o.2 x)).2 := by omega
    rw [e1, e2] at this
    exact this
theorem Df.sub {o : Ori} (v : Valid o) {p q : Int → V2} (hp : PotT o p) (hq : PotT o q) {d : V2} (h : Df o q d) : Sp (Df o p) d := by
  obtain ⟨x, hx, h⟩ := h
  have h1 := (hq.tree x hx).diff hp.zero hq.zero
  rcases h with rfl | rfl
  · have h2 := ((hq.tree _ (v.pR.aps hx)).diff hp.zero hq.zero).smul (-1)
    have h3 := Sp.sum (Sp.sum h1 h2) (Sp.gen (D := Df o p) ⟨x, hx, .inl rfl⟩)
    simp only [dfR] at h3 ⊢
    rw [show (q x).1 + 1 - (q (ap o.1 x)).1 = (q x).1 - (p x).1 + -1 * ((q (ap o.1 x)).1 - (p (ap o.1 x)).1) + ((p x).1 + 1 - (p (ap o.1 x)).1) by omega,
      show (q x).2 - (q (ap o.1 x)).2 = (q x).2 - (p x).2 + -1 * ((q (ap o.1 x)).2 - (p (ap o.1 x)).2) + ((p x).2 - (p (ap o.1 x)).2) by omega]
    exact h3
  · have h2 := ((hq.tree _ (v.pU.aps hx)).diff hp.zero hq.zero).smul (-1)
    have h3 := Sp.sum (Sp.sum h1 h2) (Sp.gen (D := Df o p) ⟨x, hx, .inr rfl⟩)
    simp only [dfU] at h3 ⊢
    rw [show (q x).1 - (q (ap o.2 x)).1 = (q x).1 - (p x).1 + -1 * ((q (ap o.2 x)).1 - (p (ap o.2 x)).1) + ((p x).1 - (p (ap o.2 x)).1) by omega,
      show (q x).2 + 1 - (q (ap o.2 x)).2 = (q x).2 - (p x).2 + -1 * ((q (ap o.2 x)).2 - (p (ap o.2 x)).2) + ((p x).2 + 1 - (p (ap o.2 x)).2) by omega]
    exact h3
theorem Df.iff {o : Ori} (v : Valid o) {p q : Int → V2} (hp : PotT o p) (hq : PotT o q) (u : V2) : Sp (Df o q) u ↔ Sp (Df o p) u := ⟨Sp.mono fun _ => Df.sub v hp hq, Sp.mono fun _ => Df.sub v hq hp⟩
noncomputable def perL (o : Ori) : L3 := theL fun u => ∃ p, PotT o p ∧ Sp (Df o p) u
theorem perL_eq {o : Ori} (v : Valid o) {p : Int → V2} (hp : PotT o p) {l : L3} (h : NF l) (e : ∀ u, InL l u ↔ Sp (Df o p) u) : l = perL o :=
  theL_eq h fun u => (e u).trans ⟨fun h => ⟨p, hp, h⟩, fun ⟨_, hq, h⟩ => (Df.iff v hp hq u).1 h⟩
end Go.Fl

/- A further vector by Euclid's algorithm; bounds. Plain Lean, no program in sight. -/
namespace Go.Fl
/-- Euclid's algorithm on the second coordinates: (b, c) and (x, y) in place of the second vector of l and v. -/
structure EuS (l : L3) (v : V2) (K N : Nat) (b c x y : Int) : Prop where
  sp : ∀ u, Sp3 l.1 (l.2.1, l.2.2) v u ↔ Sp3 l.1 (b, c) (x, y) u
  phi : b.natAbs * y.natAbs + x.natAbs * c.natAbs ≤ K
  bK : b.natAbs ≤ K
  xK : x.natAbs ≤ K
  cN : c.natAbs ≤ N
  yN : y.natAbs ≤ N
  z : c = 0 → b = 0
section
variable {l : L3} {v : V2} {K N : Nat} {b c x y : Int}
theorem EuS.start (nf : NF l) (h1 : l.2.1.natAbs * v.2.natAbs + v.1.natAbs * l.2.2.natAbs ≤ K) (h2 : l.2.1.natAbs ≤ K) (h3 : v.1.natAbs ≤ K) (h4 : l.2.2.natAbs ≤ N) (h5 : v.2.natAbs ≤ N) : EuS l v K N l.2.1 l.2.2 v.1 v.2 :=
  ⟨fun _ => Iff.rfl, h1, h2, h3, h4, h5, nf.z⟩
/-- One step, with any quotient k of which the remainder is small enough. -/
theorem EuS.next (h : EuS l v K N b c x y) (hy : y ≠ 0) (k : Int) (hk : k.natAbs * y.natAbs + (c - k * y).natAbs ≤ c.natAbs) : EuS l v K N x y (b - k * x) (c - k * y) := by
  have hphi : x.natAbs * (c - k * y).natAbs + (b - k * x).natAbs * y.natAbs ≤ K := by
    refine Nat.le_trans ?_ h.phi
    have e1 : (b - k * x).natAbs ≤ b.natAbs + k.natAbs * x.natAbs := by rw [← Int.natAbs_mul]; omega
    have e2 := Nat.mul_le_mul_right y.natAbs e1
    have e3 := Nat.mul_le_mul_left x.natAbs hk
    rw [Nat.add_mul] at e2
    rw [Nat.mul_add] at e3
    have e4 : k.natAbs * x.natAbs * y.natAbs = x.natAbs * (k.natAbs * y.natAbs) := by rw [Nat.mul_comm k.natAbs, Nat.mul_assoc]
    omega
  refine ⟨fun u => (h.sp u).trans (Sp3.step k u), hphi, h.xK, ?_, h.yN, ?_, fun e => absurd e hy⟩
  · have e1 : (b - k * x).natAbs * 1 ≤ (b - k * x).natAbs * y.natAbs := Nat.mul_le_mul_left _ (by omega)
    omega
  · have := h.cN; omega
theorem EuS.trunc (h : EuS l v K N b c x y) (hy : y ≠ 0) : EuS l v K N x y (b - c.tdiv y * x) (c - c.tdiv y * y) ∧ (c - c.tdiv y * y).natAbs < y.natAbs ∧ (c.tdiv y * x).natAbs ≤ K ∧ (c.tdiv y * y).natAbs ≤ N ∧ (c.tdiv y).natAbs ≤ N := by
  have e0 : c - c.tdiv y * y = c.tmod y := by have := Int.tmod_add_mul_tdiv c y; rw [Int.mul_comm] at this; omega
  have e1 : (c.tmod y).natAbs = c.natAbs % y.natAbs := Int.natAbs_tmod c y
  have e2 : (c.tdiv y).natAbs = c.natAbs / y.natAbs := Int.natAbs_tdiv c y
  have hk : (c.tdiv y).natAbs * y.natAbs + (c - c.tdiv y * y).natAbs = c.natAbs := by
    rw [e0, e1, e2, Nat.mul_comm, Nat.add_comm]; exact Nat.mod_add_div _ _
  have h1 : (c.tdiv y).natAbs * 1 ≤ (c.tdiv y).natAbs * y.natAbs := Nat.mul_le_mul_left _ (by omega)
  have h2 := h.cN
  refine ⟨h.next hy _ (Nat.le_of_eq hk), by rw [e0, e1]; exact Nat.mod_lt _ (by omega), ?_, by rw [Int.natAbs_mul]; omega, by omega⟩
  rw [Int.natAbs_mul, Nat.mul_comm]
  have h3 : x.natAbs * (c.tdiv y).natAbs ≤ x.natAbs * c.natAbs := Nat.mul_le_mul_left _ (by omega)
  have := h.phi
  omega
/-- What is made of it at the end. -/
def fin3 (a b c : Int) : L3 := (a, if 0 < a then (if c < 0 then -b else b) % a else (if c < 0 then -b else b), if c < 0 then -c else c)
theorem fin3_nf {a b c : Int} (ha : 0 ≤ a) (hz : c = 0 → b = 0) : NF (fin3 a b c) := by
  refine ⟨ha, ?_, fun hp => ?_, fun e => ?_⟩
  · show 0 ≤ (if c < 0 then -c else c)
    split <;> omega
  · have hp' : 0 < a := hp
    show 0 ≤ (if 0 < a then _ else _) ∧ (if 0 < a then _ else _) < a
    rw [if_pos hp']
    exact ⟨Int.emod_nonneg _ (by omega), Int.emod_lt_of_pos _ hp'⟩
  · have hc : c = 0 := by
      have e' : (if c < 0 then -c else c) = 0 := e
      split at e' <;> omega
    have hb := hz hc
    show (if 0 < a then (if c < 0 then -b else b) % a else (if c < 0 then -b else b)) = 0
    rw [hb, hc]; simp
theorem fin3_in {a b c : Int} (u : V2) : InL (fin3 a b c) u ↔ InL (a, b, c) u := by
  have h1 : InL (a, (if c < 0 then -b else b), (if c < 0 then -c else c)) u ↔ InL (a, b, c) u := by
    by_cases hc : c < 0
    · rw [if_pos hc, if_pos hc]; exact (InL.neg u).symm
    · rw [if_neg hc, if_neg hc]
  refine Iff.trans ?_ h1
  unfold fin3
  by_cases ha : 0 < a
  · rw [if_pos ha]; exact (InL.mod u).symm
  · rw [if_neg ha]
theorem EuS.done (h : EuS l v K N b c x 0) : latA l v = fin3 (Int.gcd l.1 x : Int) b c :=
  (latA_eq (fin3_nf (Int.natCast_nonneg _) h.z) fun u => (fin3_in u).trans ((h.sp u).trans (Sp3.fin u)).symm).symm
end
theorem fin3_np {a b c : Int} (hc : c < 0) (ha : 0 < a) : fin3 a b c = (a, -b % a, -c) := by unfold fin3; rw [if_pos ha, if_pos hc, if_pos hc]
theorem fin3_nn {a b c : Int} (hc : c < 0) (ha : a ≤ 0) : fin3 a b c = (a, -b, -c) := by unfold fin3; rw [if_neg (by omega), if_pos hc, if_pos hc]
theorem fin3_pp {a b c : Int} (hc : 0 ≤ c) (ha : 0 < a) : fin3 a b c = (a, b % a, c) := by unfold fin3; rw [if_pos ha, if_neg (by omega), if_neg (by omega)]
theorem fin3_pn {a b c : Int} (hc : 0 ≤ c) (ha : a ≤ 0) : fin3 a b c = (a, b, c) := by unfold fin3; rw [if_neg (by omega), if_neg (by omega), if_neg (by omega)]
theorem gcd_bnd {a b : Int} : Int.gcd a b ≤ a.natAbs + b.natAbs := by
  by_cases h : a = 0
  · subst h; simp [Int.gcd]
  · have := Nat.gcd_le_left b.natAbs (show 0 < a.natAbs by omega)
    unfold Int.gcd; omega
/-! ### The reference's quotients are rounded down -/
theorem EuS.wide {l : L3} {v : V2} {K K' N : Nat} {b c x y : Int} (h : EuS l v K N b c x y) (hK : K ≤ K') : EuS l v K' N b c x y :=
  ⟨h.sp, Nat.le_trans h.phi hK, Nat.le_trans h.bK hK, Nat.le_trans h.xK hK, h.cN, h.yN, h.z⟩
def flk (c y : Int) : Int := if y < 0 then -(c / (if y < 0 then -y else y)) else c / (if y < 0 then -y else y)
/-- Where the reference may be within its loop. -/
def RfS (l : L3) (v : V2) (K N : Nat) (b c x y : Int) : Prop := (0 ≤ c ∧ y < 0 ∧ EuS l v K N b c x y) ∨ (0 ≤ c ∧ 0 ≤ y ∧ EuS l v (3 * K) N b c x y) ∨ (c < 0 ∧ 0 ≤ y ∧ y < -c ∧ EuS l v K N b c x y)
theorem RfS.wide {l : L3} {v : V2} {K N : Nat} {b c x y : Int} (h : RfS l v K N b c x y) : EuS l v (3 * K) N b c x y := by
  rcases h with ⟨_, _, h⟩ | ⟨_, _, h⟩ | ⟨_, _, _, h⟩
  · exact h.wide (by omega)
  · exact h
  · exact h.wide (by omega)
theorem RfS.start {l : L3} {v : V2} {K N : Nat} (nf : NF l) (h : EuS l v K N l.2.1 l.2.2 v.1 v.2) : RfS l v K N l.2.1 l.2.2 v.1 v.2 := by
  rcases Int.lt_or_le v.2 0 with q | q
  · exact .inl ⟨nf.c, q, h⟩
  · exact .inr (.inl ⟨nf.c, q, h.wide (by omega)⟩)
end Go.Fl

/- Contracts: the lattice of the periods. -/
namespace Go.Fl
open Go Go.Proofs


theorem tmod_two {n m : Int} (hm : 0 < m) : (n.tmod m + m).tmod m = n % m := by
  have hr := tmod_lt (n := n) hm
  have h0 : 0 ≤ n.tmod m + m := by omega
  rw [Int.tmod_eq_emod_of_nonneg h0, Int.add_emod_right]
  have h1 := Int.tmod_add_mul_tdiv n m
  have h2 : n.tmod m = n - m * n.tdiv m := by omega
  rw [h2, Int.sub_mul_emod_self_left]

set_option maxRecDepth 100000 in
theorem ct_omod (n m : Int) (hm : 0 < m) (h1 : m ≤ 4611686018427387904) : Ct Try.prog 73 [kI n, kI m] (kI (n % m)) := by
  have hr := tmod_lt (n := n) hm
  refine Ct.mk Try.func73 rfl Try.ntmps73 rfl (fun w J => ?_)
  refine Tr.seq ?_
  refine Tr.rg ?_
  refine TrL.op (ok_assign rfl (fun _ => rfl)) rfl rfl ?_
  refine TrL.fin ?_
  refine End.nxt ?_
  refine Tr.seq ?_
  refine Tr.rg ?_
  refine TrL.op (ok_move rfl (fun _ => rfl)) rfl rfl ?_
  refine TrL.op (ok_move rfl (fun _ => rfl)) rfl rfl ?_
  refine TrL.op (ok_rem rfl (fun _ => rfl) rfl (fun _ => rfl) (fun _ => by omega)) rfl rfl ?_
  refine TrL.op (ok_move rfl (fun _ => rfl)) rfl rfl ?_
  refine TrL.op (ok_add rfl (fun _ => rfl) rfl (fun _ => rfl) (fun _ => by omega)) rfl rfl ?_
  refine TrL.op (ok_move rfl (fun _ => rfl)) rfl rfl ?_
  refine TrL.op (ok_rem rfl (fun _ => rfl) rfl (fun _ => rfl) (fun _ => by omega)) rfl rfl ?_
  refine TrL.op (ok_assign rfl (fun _ => rfl)) rfl rfl ?_
  refine TrL.fin ?_
  refine End.nxt ?_
  refine Tr.ret ?_
  exact Rts.res1 (fn := Try.f73) rfl (.i rfl (tmod_two hm) <| .nil)

set_option maxRecDepth 100000 in
theorem ct_put (l : L3) (x0 y0 : Int) (K N : Nat) (nf : NF l) (hE : EuS l (x0, y0) K N l.2.1 l.2.2 x0 y0) (hA : l.1 ≤ 1000000000000) (hK : K ≤ 1000000000000) (hN : N ≤ 1000000) : CtB Try.prog 45 (kOwn 0 0) [kI x0, kI y0] (cBlk [kI l.1, kI l.2.1, kI l.2.2]) (cBlk [kI (latA l (x0, y0)).1, kI (latA l (x0, y0)).2.1, kI (latA l (x0, y0)).2.2]) (kDet (.tuple #[])) := by
  have hA0 := nf.a
  refine CtB.mk Try.func45 rfl Try.ntmps45 rfl (fun w J bb cap => ?_)
  refine Tr.for (σ := Int × Int × Int × Int) [⟨0, true, _, _⟩] [] (fun s => [⟨1, true, [], kI s.2.2.1⟩, ⟨2, true, [], kI s.2.2.2⟩]) (fun s => [⟨0, [], cBlk [kI l.1, kI s.1, kI s.2.1]⟩]) (fun s => EuS l (x0, y0) K N s.1 s.2.1 s.2.2.1 s.2.2.2) (fun s => EuS l (x0, y0) K N s.1 s.2.1 s.2.2.1 0) (fun s => s.2.2.2.natAbs) ((l.2.1, l.2.2, x0, y0)) hE (Ent.mk (.i rfl (by first | rfl | omega | (simp; done) | (simp; omega) | assumption) <| .i rfl (by first | rfl | omega | (simp; done) | (simp; omega) | assumption) <| .k rfl rfl <| .nil) (.e (by rfl) rfl <| .nil) rfl) ?_ ?_
  · intro s hR
    refine Tr.norm (S' := [⟨1, true, _, _⟩, ⟨2, true, _, _⟩, ⟨0, true, _, _⟩]) (M' := [⟨0, _, _⟩]) rfl rfl ?_
    have q1 := hR.bK
    have q2 := hR.xK
    have q3 := hR.cN
    have q4 := hR.yN
    refine Tr.seq ?_
    refine Tr.seq ?_
    refine Tr.rg ?_
    refine TrL.op (ok_move rfl (fun _ => rfl)) rfl rfl ?_
    refine TrL.op (ok_neq rfl (fun _ => rfl) rfl (fun _ => rfl)) rfl rfl ?_
    refine TrL.fin ?_
    refine End.nxt ?_
    refine Tr.cnd rfl ?_ ?_
    · intro h0
      replace h0 := of_decide_eq_true h0
      have ht := hR.trunc h0
      have t1 := ht.2.2.1
      have t2 := ht.2.2.2.1
      have t3 := ht.2.2.2.2
      refine Tr.skip ?_
      refine End.nxt ?_
      refine Tr.blk ?_
      refine Tr.seq ?_
      refine Tr.rg ?_
      refine TrL.op (ok_move rfl (fun _ => rfl)) rfl rfl ?_
      refine TrL.op (ok_nilB rfl (fun _ => rfl)) rfl rfl ?_
      refine TrL.op (ok_fldO rfl (fun _ => rfl)) rfl rfl ?_
      refine TrL.op (ok_ldB rfl (fun _ => rfl) rfl) rfl rfl ?_
      refine TrL.op (ok_move rfl (fun _ => rfl)) rfl rfl ?_
      refine TrL.op (ok_quo rfl (fun _ => rfl) rfl (fun _ => rfl) (fun _ => by omega)) rfl rfl ?_
      refine TrL.op (ok_assign rfl (fun _ => rfl)) rfl rfl ?_
      refine TrL.fin ?_
      refine End.nxt ?_
      refine Tr.drawA mixed #[false, false, false, false, false, false, false, false, false, false, false, false, false, false, false, false, false, false, false, false, false, false, false, false, false, false, false, false] rfl ?_
      refine TrA.take 0 #[true, false, false, false, false, false, false, false, false, false, false, false, false, false, false, false, false, false, false, false, false, false, false, false, false, false, false, false] (by kernel_rfl) (by kernel_rfl) (by kernel_rfl) rfl rfl (y_move rfl) rfl rfl ?_
      refine TrA.take 1 #[true, true, false, false, false, false, false, false, false, false, false, false, false, false, false, false, false, false, false, false, false, false, false, false, false, false, false, false] (by kernel_rfl) (by kernel_rfl) (by kernel_rfl) rfl rfl (y_move rfl) rfl rfl ?_
      refine TrA.take 2 #[true, true, true, false, false, false, false, false, false, false, false, false, false, false, false, false, false, false, false, false, false, false, false, false, false, false, false, false] (by kernel_rfl) (by kernel_rfl) (by kernel_rfl) rfl rfl (y_move rfl) rfl rfl ?_
      refine TrA.take 3 #[true, true, true, true, false, false, false, false, false, false, false, false, false, false, false, false, false, false, false, false, false, false, false, false, false, false, false, false] (by kernel_rfl) (by kernel_rfl) (by kernel_rfl) rfl rfl (y_move rfl) rfl rfl ?_
      refine TrA.take 4 #[true, true, true, true, true, false, false, false, false, false, false, false, false, false, false, false, false, false, false, false, false, false, false, false, false, false, false, false] (by kernel_rfl) (by kernel_rfl) (by kernel_rfl) rfl rfl (y_move rfl) rfl rfl ?_
      refine TrA.take 5 #[true, true, true, true, true, true, false, false, false, false, false, false, false, false, false, false, false, false, false, false, false, false, false, false, false, false, false, false] (by kernel_rfl) (by kernel_rfl) (by kernel_rfl) rfl rfl (y_nilB rfl) rfl rfl ?_
      refine TrA.take 6 #[true, true, true, true, true, true, true, false, false, false, false, false, false, false, false, false, false, false, false, false, false, false, false, false, false, false, false, false] (by kernel_rfl) (by kernel_rfl) (by kernel_rfl) rfl rfl (y_fldO rfl) rfl rfl ?_
      refine TrA.take 8 #[true, true, true, true, true, true, true, false, true, false, false, false, false, false, false, false, false, false, false, false, false, false, false, false, false, false, false, false] (by kernel_rfl) (by kernel_rfl) (by kernel_rfl) rfl rfl (y_move rfl) rfl rfl ?_
      refine TrA.take 9 #[true, true, true, true, true, true, true, false, true, true, false, false, false, false, false, false, false, false, false, false, false, false, false, false, false, false, false, false] (by kernel_rfl) (by kernel_rfl) (by kernel_rfl) rfl rfl (y_move rfl) rfl rfl ?_
      refine TrA.take 10 #[true, true, true, true, true, true, true, false, true, true, true, false, false, false, false, false, false, false, false, false, false, false, false, false, false, false, false, false] (by kernel_rfl) (by kernel_rfl) (by kernel_rfl) rfl rfl (y_mul rfl rfl (by omega)) rfl rfl ?_
      refine TrA.take 12 #[true, true, true, true, true, true, true, false, true, true, true, false, true, false, false, false, false, false, false, false, false, false, false, false, false, false, false, false] (by kernel_rfl) (by kernel_rfl) (by kernel_rfl) rfl rfl (y_move rfl) rfl rfl ?_
      refine TrA.take 13 #[true, true, true, true, true, true, true, false, true, true, true, false, true, true, false, false, false, false, false, false, false, false, false, false, false, false, false, false] (by kernel_rfl) (by kernel_rfl) (by kernel_rfl) rfl rfl (y_nilB rfl) rfl rfl ?_
      refine TrA.take 14 #[true, true, true, true, true, true, true, false, true, true, true, false, true, true, true, false, false, false, false, false, false, false, false, false, false, false, false, false] (by kernel_rfl) (by kernel_rfl) (by kernel_rfl) rfl rfl (y_fldO rfl) rfl rfl ?_
      refine TrA.take 16 #[true, true, true, true, true, true, true, false, true, true, true, false, true, true, true, false, true, false, false, false, false, false, false, false, false, false, false, false] (by kernel_rfl) (by kernel_rfl) (by kernel_rfl) rfl rfl (y_move rfl) rfl rfl ?_
      refine TrA.take 17 #[true, true, true, true, true, true, true, false, true, true, true, false, true, true, true, false, true, true, false, false, false, false, false, false, false, false, false, false] (by kernel_rfl) (by kernel_rfl) (by kernel_rfl) rfl rfl (y_move rfl) rfl rfl ?_
      refine TrA.take 18 #[true, true, true, true, true, true, true, false, true, true, true, false, true, true, true, false, true, true, true, false, false, false, false, false, false, false, false, false] (by kernel_rfl) (by kernel_rfl) (by kernel_rfl) rfl rfl (y_mul rfl rfl (by omega)) rfl rfl ?_
      refine TrA.all [7, 15] (by kernel_rfl) (by simp) (fun i hi => ?_)
      simp only [List.mem_cons, List.not_mem_nil, or_false] at hi
      rcases hi with rfl | rfl
      · refine ⟨_, rfl, ?_⟩
        refine TrL.op (ok_ldB rfl (fun _ => rfl) rfl) rfl rfl ?_
        refine TrA.k #[true, true, true, true, true, true, true, true, true, true, true, false, true, true, true, false, true, true, true, false, false, false, false, false, false, false, false, false] rfl (fun _ _ _ _ => trivial) ?_
        refine TrA.take 11 #[true, true, true, true, true, true, true, true, true, true, true, true, true, true, true, false, true, true, true, false, false, false, false, false, false, false, false, false] (by kernel_rfl) (by kernel_rfl) (by kernel_rfl) rfl rfl (y_sub rfl rfl (by omega)) rfl rfl ?_
        refine TrA.one 15 (by kernel_rfl) rfl ?_
        refine TrL.op (ok_ldB rfl (fun _ => rfl) rfl) rfl rfl ?_
        refine TrA.k #[true, true, true, true, true, true, true, true, true, true, true, true, true, true, true, true, true, true, true, false, false, false, false, false, false, false, false, false] rfl (fun _ _ _ _ => trivial) ?_
        refine TrA.take 19 #[true, true, true, true, true, true, true, true, true, true, true, true, true, true, true, true, true, true, true, true, false, false, false, false, false, false, false, false] (by kernel_rfl) (by kernel_rfl) (by kernel_rfl) rfl rfl (y_sub rfl rfl (by omega)) rfl rfl ?_
        refine TrA.take 20 #[true, true, true, true, true, true, true, true, true, true, true, true, true, true, true, true, true, true, true, true, true, false, false, false, false, false, false, false] (by kernel_rfl) (by kernel_rfl) (by kernel_rfl) rfl rfl (y_nilB rfl) rfl rfl ?_
        refine TrA.take 21 #[true, true, true, true, true, true, true, true, true, true, true, true, true, true, true, true, true, true, true, true, true, true, false, false, false, false, false, false] (by kernel_rfl) (by kernel_rfl) (by kernel_rfl) rfl rfl (y_fldO rfl) rfl rfl ?_
        refine TrA.one 22 (by kernel_rfl) rfl ?_
        refine TrL.stB rfl rfl rfl rfl ?_
        refine TrA.k #[true, true, true, true, true, true, true, true, true, true, true, true, true, true, true, true, true, true, true, true, true, true, true, false, false, false, false, false] rfl (fun _ _ _ _ => trivial) ?_
        refine TrA.take 23 #[true, true, true, true, true, true, true, true, true, true, true, true, true, true, true, true, true, true, true, true, true, true, true, true, false, false, false, false] (by kernel_rfl) (by kernel_rfl) (by kernel_rfl) rfl rfl (y_nilB rfl) rfl rfl ?_
        refine TrA.take 24 #[true, true, true, true, true, true, true, true, true, true, true, true, true, true, true, true, true, true, true, true, true, true, true, true, true, false, false, false] (by kernel_rfl) (by kernel_rfl) (by kernel_rfl) rfl rfl (y_fldO rfl) rfl rfl ?_
        refine TrA.one 25 (by kernel_rfl) rfl ?_
        refine TrL.stB rfl rfl rfl rfl ?_
        refine TrA.k #[true, true, true, true, true, true, true, true, true, true, true, true, true, true, true, true, true, true, true, true, true, true, true, true, true, true, false, false] rfl (fun _ _ _ _ => trivial) ?_
        refine TrA.one 26 (by kernel_rfl) rfl ?_
        refine TrL.op (ok_assign rfl (fun _ => rfl)) rfl rfl ?_
        refine TrA.k #[true, true, true, true, true, true, true, true, true, true, true, true, true, true, true, true, true, true, true, true, true, true, true, true, true, true, true, false] rfl (fun _ _ _ _ => trivial) ?_
        refine TrA.one 27 (by kernel_rfl) rfl ?_
        refine TrL.op (ok_assign rfl (fun _ => rfl)) rfl rfl ?_
        refine TrA.k #[true, true, true, true, true, true, true, true, true, true, true, true, true, true, true, true, true, true, true, true, true, true, true, true, true, true, true, true] rfl (fun _ _ _ _ => trivial) ?_
        refine TrA.done (by kernel_rfl) ?_
        refine End.blk ?_
        exact End.lp ((s.2.2.1, s.2.2.2, s.1 - s.2.1.tdiv s.2.2.2 * s.2.2.1, s.2.1 - s.2.1.tdiv s.2.2.2 * s.2.2.2)) ht.1 ht.2.1 (Ent.mk (.i rfl (by first | rfl | omega | (simp; done) | (simp; omega) | assumption) <| .i rfl (by first | rfl | omega | (simp; done) | (simp; omega) | assumption) <| .k rfl rfl <| .nil) (.e (by rfl) rfl <| .nil) rfl)
      · refine ⟨_, rfl, ?_⟩
        refine TrL.op (ok_ldB rfl (fun _ => rfl) rfl) rfl rfl ?_
        refine TrA.k #[true, true, true, true, true, true, true, false, true, true, true, false, true, true, true, true, true, true, true, false, false, false, false, false, false, false, false, false] rfl (fun _ _ _ _ => trivial) ?_
        refine TrA.take 19 #[true, true, true, true, true, true, true, false, true, true, true, false, true, true, true, true, true, true, true, true, false, false, false, false, false, false, false, false] (by kernel_rfl) (by kernel_rfl) (by kernel_rfl) rfl rfl (y_sub rfl rfl (by omega)) rfl rfl ?_
        refine TrA.one 7 (by kernel_rfl) rfl ?_
        refine TrL.op (ok_ldB rfl (fun _ => rfl) rfl) rfl rfl ?_
        refine TrA.k #[true, true, true, true, true, true, true, true, true, true, true, false, true, true, true, true, true, true, true, true, false, false, false, false, false, false, false, false] rfl (fun _ _ _ _ => trivial) ?_
        refine TrA.take 11 #[true, true, true, true, true, true, true, true, true, true, true, true, true, true, true, true, true, true, true, true, false, false, false, false, false, false, false, false] (by kernel_rfl) (by kernel_rfl) (by kernel_rfl) rfl rfl (y_sub rfl rfl (by omega)) rfl rfl ?_
        refine TrA.take 20 #[true, true, true, true, true, true, true, true, true, true, true, true, true, true, true, true, true, true, true, true, true, false, false, false, false, false, false, false] (by kernel_rfl) (by kernel_rfl) (by kernel_rfl) rfl rfl (y_nilB rfl) rfl rfl ?_
        refine TrA.take 21 #[true, true, true, true, true, true, true, true, true, true, true, true, true, true, true, true, true, true, true, true, true, true, false, false, false, false, false, false] (by kernel_rfl) (by kernel_rfl) (by kernel_rfl) rfl rfl (y_fldO rfl) rfl rfl ?_
        refine TrA.one 22 (by kernel_rfl) rfl ?_
        refine TrL.stB rfl rfl rfl rfl ?_
        refine TrA.k #[true, true, true, true, true, true, true, true, true, true, true, true, true, true, true, true, true, true, true, true, true, true, true, false, false, false, false, false] rfl (fun _ _ _ _ => trivial) ?_
        refine TrA.take 23 #[true, true, true, true, true, true, true, true, true, true, true, true, true, true, true, true, true, true, true, true, true, true, true, true, false, false, false, false] (by kernel_rfl) (by kernel_rfl) (by kernel_rfl) rfl rfl (y_nilB rfl) rfl rfl ?_
        refine TrA.take 24 #[true, true, true, true, true, true, true, true, true, true, true, true, true, true, true, true, true, true, true, true, true, true, true, true, true, false, false, false] (by kernel_rfl) (by kernel_rfl) (by kernel_rfl) rfl rfl (y_fldO rfl) rfl rfl ?_
        refine TrA.one 25 (by kernel_rfl) rfl ?_
        refine TrL.stB rfl rfl rfl rfl ?_
        refine TrA.k #[true, true, true, true, true, true, true, true, true, true, true, true, true, true, true, true, true, true, true, true, true, true, true, true, true, true, false, false] rfl (fun _ _ _ _ => trivial) ?_
        refine TrA.one 26 (by kernel_rfl) rfl ?_
        refine TrL.op (ok_assign rfl (fun _ => rfl)) rfl rfl ?_
        refine TrA.k #[true, true, true, true, true, true, true, true, true, true, true, true, true, true, true, true, true, true, true, true, true, true, true, true, true, true, true, false] rfl (fun _ _ _ _ => trivial) ?_
        refine TrA.one 27 (by kernel_rfl) rfl ?_
        refine TrL.op (ok_assign rfl (fun _ => rfl)) rfl rfl ?_
        refine TrA.k #[true, true, true, true, true, true, true, true, true, true, true, true, true, true, true, true, true, true, true, true, true, true, true, true, true, true, true, true] rfl (fun _ _ _ _ => trivial) ?_
        refine TrA.done (by kernel_rfl) ?_
        refine End.blk ?_
        exact End.lp ((s.2.2.1, s.2.2.2, s.1 - s.2.1.tdiv s.2.2.2 * s.2.2.1, s.2.1 - s.2.1.tdiv s.2.2.2 * s.2.2.2)) ht.1 ht.2.1 (Ent.mk (.i rfl (by first | rfl | omega | (simp; done) | (simp; omega) | assumption) <| .i rfl (by first | rfl | omega | (simp; done) | (simp; omega) | assumption) <| .k rfl rfl <| .nil) (.e (by rfl) rfl <| .nil) rfl)
    · intro h0
      replace h0 := Classical.not_not.1 (of_decide_eq_false h0)
      refine Tr.exit ?_
      refine Exs.thn ?_
      refine Exs.thn ?_
      refine Exs.here ?_
      exact End.cut (s) (by rw [h0] at hR; exact hR) (Ent.mk (.i rfl (by first | rfl | omega | (simp; done) | (simp; omega) | assumption) <| .i rfl (by first | rfl | omega | (simp; done) | (simp; omega) | assumption) <| .k rfl rfl <| .nil) (.k rfl <| .nil) rfl)
  · intro s hE2
    refine Tr.norm (S' := [⟨1, true, _, _⟩, ⟨2, true, _, _⟩, ⟨0, true, _, _⟩]) (M' := [⟨0, _, _⟩]) rfl rfl ?_
    have q1 := hE2.bK
    have q2 := hE2.xK
    have q3 := hE2.cN
    have hd := hE2.done
    have hg := Int.natCast_nonneg (Int.gcd l.1 s.2.2.1)
    have hg2 := gcd_bnd (a := l.1) (b := s.2.2.1)
    refine Tr.seq ?_
    refine Tr.rg ?_
    refine TrL.op (ok_move rfl (fun _ => rfl)) rfl rfl ?_
    refine TrL.op (ok_move rfl (fun _ => rfl)) rfl rfl ?_
    refine TrL.op (ok_nilB rfl (fun _ => rfl)) rfl rfl ?_
    refine TrL.op (ok_fldO rfl (fun _ => rfl)) rfl rfl ?_
    refine TrL.op (ok_ldB rfl (fun _ => rfl) rfl) rfl rfl ?_
    refine TrL.op (ok_move rfl (fun _ => rfl)) rfl rfl ?_
    refine TrL.op (ok_call (fun hp => ct_ogcd _ _ (by omega) (by omega)) (.a rfl (fun _ => rfl) <| .a rfl (fun _ => rfl) <| .nil)) rfl rfl ?_
    refine TrL.op (ok_nilB rfl (fun _ => rfl)) rfl rfl ?_
    refine TrL.op (ok_fldO rfl (fun _ => rfl)) rfl rfl ?_
    refine TrL.stB rfl rfl rfl rfl ?_
    refine TrL.fin ?_
    refine End.nxt ?_
    refine Tr.seq ?_
    refine Tr.seq ?_
    refine Tr.rg ?_
    refine TrL.op (ok_move rfl (fun _ => rfl)) rfl rfl ?_
    refine TrL.op (ok_nilB rfl (fun _ => rfl)) rfl rfl ?_
    refine TrL.op (ok_fldO rfl (fun _ => rfl)) rfl rfl ?_
    refine TrL.op (ok_ldB rfl (fun _ => rfl) rfl) rfl rfl ?_
    refine TrL.op (ok_lss rfl (fun _ => rfl) rfl (fun _ => rfl)) rfl rfl ?_
    refine TrL.fin ?_
    refine End.nxt ?_
    refine Tr.cnd rfl ?_ ?_
    · intro h4
      replace h4 := of_decide_eq_true h4
      refine Tr.drawS 14 0 mixed (by kernel_rfl) ?_
      refine RunS.opA (ok_move rfl (fun _ => rfl)) (by kernel_rfl) rfl rfl ?_
      refine RunS.op (ok_move rfl (fun _ => rfl)) rfl rfl ?_
      refine RunS.opA (ok_move rfl (fun _ => rfl)) (by kernel_rfl) rfl rfl ?_
      refine RunS.opA (ok_nilB rfl (fun _ => rfl)) (by kernel_rfl) rfl rfl ?_
      refine RunS.opA (ok_fldO rfl (fun _ => rfl)) (by kernel_rfl) rfl rfl ?_
      refine RunS.opA (ok_ldB rfl (fun _ => rfl) rfl) (by kernel_rfl) rfl rfl ?_
      refine RunS.opA (ok_neg rfl (fun _ => rfl) (fun _ => by omega)) (by kernel_rfl) rfl rfl ?_
      refine RunS.opA (ok_move rfl (fun _ => rfl)) (by kernel_rfl) rfl rfl ?_
      refine RunS.opA (ok_nilB rfl (fun _ => rfl)) (by kernel_rfl) rfl rfl ?_
      refine RunS.opA (ok_fldO rfl (fun _ => rfl)) (by kernel_rfl) rfl rfl ?_
      refine RunS.opA (ok_ldB rfl (fun _ => rfl) rfl) (by kernel_rfl) rfl rfl ?_
      refine RunS.op (ok_neg rfl (fun _ => rfl) (fun _ => by omega)) rfl rfl ?_
      refine RunS.opA (ok_nilB rfl (fun _ => rfl)) (by kernel_rfl) rfl rfl ?_
      refine RunS.opA (ok_fldO rfl (fun _ => rfl)) (by kernel_rfl) rfl rfl ?_
      refine RunS.z (st_B rfl rfl rfl) rfl rfl rfl ?_
      refine TrL.op (ok_nilB rfl (fun _ => rfl)) rfl rfl ?_
      refine TrL.op (ok_fldO rfl (fun _ => rfl)) rfl rfl ?_
      refine TrL.stB rfl rfl rfl rfl ?_
      refine TrL.fin ?_
      refine End.nxt ?_
      refine Tr.seq ?_
      refine Tr.rg ?_
      refine TrL.op (ok_move rfl (fun _ => rfl)) rfl rfl ?_
      refine TrL.op (ok_nilB rfl (fun _ => rfl)) rfl rfl ?_
      refine TrL.op (ok_fldO rfl (fun _ => rfl)) rfl rfl ?_
      refine TrL.op (ok_ldB rfl (fun _ => rfl) rfl) rfl rfl ?_
      refine TrL.op (ok_gtr rfl (fun _ => rfl) rfl (fun _ => rfl)) rfl rfl ?_
      refine TrL.fin ?_
      refine End.nxt ?_
      refine Tr.cnd rfl ?_ ?_
      · intro h6
        replace h6 := of_decide_eq_true h6
        refine Tr.draw 10 mixed (by kernel_rfl) ?_
        refine RunD.op (ok_move rfl (fun _ => rfl)) rfl rfl ?_
        refine RunD.op (ok_move rfl (fun _ => rfl)) rfl rfl ?_
        refine RunD.op (ok_nilB rfl (fun _ => rfl)) rfl rfl ?_
        refine RunD.op (ok_fldO rfl (fun _ => rfl)) rfl rfl ?_
        refine RunD.op (ok_ldB rfl (fun _ => rfl) rfl) rfl rfl ?_
        refine RunD.op (ok_move rfl (fun _ => rfl)) rfl rfl ?_
        refine RunD.op (ok_nilB rfl (fun _ => rfl)) rfl rfl ?_
        refine RunD.op (ok_fldO rfl (fun _ => rfl)) rfl rfl ?_
        refine RunD.op (ok_ldB rfl (fun _ => rfl) rfl) rfl rfl ?_
        refine RunD.op (ok_call (fun hp => ct_omod _ _ (by omega) (by omega)) (.a rfl (fun _ => rfl) <| .a rfl (fun _ => rfl) <| .nil)) rfl rfl ?_
        refine RunD.z ?_
        refine TrL.op (ok_nilB rfl (fun _ => rfl)) rfl rfl ?_
        refine TrL.op (ok_fldO rfl (fun _ => rfl)) rfl rfl ?_
        refine TrL.stB rfl rfl rfl rfl ?_
        refine TrL.fin ?_
        exact End.mutB (t := 0) rfl rfl (fun _ _ _ h => (by rw [hd, fin3_np h4 h6]; exact cBlk_go h))
      · intro h6
        replace h6 := Int.not_lt.1 (of_decide_eq_false h6)
        refine Tr.skip ?_
        exact End.mutB (t := 0) rfl rfl (fun _ _ _ h => (by rw [hd, fin3_nn h4 h6]; exact cBlk_go h))
    · intro h4
      replace h4 := Int.not_lt.1 (of_decide_eq_false h4)
      refine Tr.skip ?_
      refine End.nxt ?_
      refine Tr.seq ?_
      refine Tr.rg ?_
      refine TrL.op (ok_move rfl (fun _ => rfl)) rfl rfl ?_
      refine TrL.op (ok_nilB rfl (fun _ => rfl)) rfl rfl ?_
      refine TrL.op (ok_fldO rfl (fun _ => rfl)) rfl rfl ?_
      refine TrL.op (ok_ldB rfl (fun _ => rfl) rfl) rfl rfl ?_
      refine TrL.op (ok_gtr rfl (fun _ => rfl) rfl (fun _ => rfl)) rfl rfl ?_
      refine TrL.fin ?_
      refine End.nxt ?_
      refine Tr.cnd rfl ?_ ?_
      · intro h6
        replace h6 := of_decide_eq_true h6
        refine Tr.draw 10 mixed (by kernel_rfl) ?_
        refine RunD.op (ok_move rfl (fun _ => rfl)) rfl rfl ?_
        refine RunD.op (ok_move rfl (fun _ => rfl)) rfl rfl ?_
        refine RunD.op (ok_nilB rfl (fun _ => rfl)) rfl rfl ?_
        refine RunD.op (ok_fldO rfl (fun _ => rfl)) rfl rfl ?_
        refine RunD.op (ok_ldB rfl (fun _ => rfl) rfl) rfl rfl ?_
        refine RunD.op (ok_move rfl (fun _ => rfl)) rfl rfl ?_
        refine RunD.op (ok_nilB rfl (fun _ => rfl)) rfl rfl ?_
        refine RunD.op (ok_fldO rfl (fun _ => rfl)) rfl rfl ?_
        refine RunD.op (ok_ldB rfl (fun _ => rfl) rfl) rfl rfl ?_
        refine RunD.op (ok_call (fun hp => ct_omod _ _ (by omega) (by omega)) (.a rfl (fun _ => rfl) <| .a rfl (fun _ => rfl) <| .nil)) rfl rfl ?_
        refine RunD.z ?_
        refine TrL.op (ok_nilB rfl (fun _ => rfl)) rfl rfl ?_
        refine TrL.op (ok_fldO rfl (fun _ => rfl)) rfl rfl ?_
        refine TrL.stB rfl rfl rfl rfl ?_
        refine TrL.fin ?_
        exact End.mutB (t := 0) rfl rfl (fun _ _ _ h => (by rw [hd, fin3_pp h4 h6]; exact cBlk_go h))
      · intro h6
        replace h6 := Int.not_lt.1 (of_decide_eq_false h6)
        refine Tr.skip ?_
        exact End.mutB (t := 0) rfl rfl (fun _ _ _ h => (by rw [hd, fin3_pn h4 h6]; exact cBlk_go h))

end Go.Fl

/- Contracts: the lattice of the periods, in the reference. -/
namespace Go.Fl
open Go Go.Proofs

def eLat : Enc L3 := eC (fun v : L3 => (v.1, v.2.1, v.2.2, ())) (eP eI (eP eI (eP eI eU)))
instance {v : L3} : CellsK (kRd eLat v) [kI (v.1), kI (v.2.1), kI (v.2.2)] := inferInstanceAs (CellsK (kRd (eC (fun v : L3 => (v.1, v.2.1, v.2.2, ())) (eP eI (eP eI (eP eI eU)))) v) _)
instance {v : L3} {tl : List Know} : EncCells eLat v tl (kI (v.1) :: kI (v.2.1) :: kI (v.2.2) :: tl) := inferInstanceAs (EncCells (eC (fun v : L3 => (v.1, v.2.1, v.2.2, ())) (eP eI (eP eI (eP eI eU)))) v tl _)
instance {v : L3} : Norm eLat v (kRd eLat v) := ⟨fun h => h⟩
instance {v : L3} : FieldP eLat v 0 eI (v.1) 0 := inferInstanceAs (FieldP (eC (fun v : L3 => (v.1, v.2.1, v.2.2, ())) (eP eI (eP eI (eP eI eU)))) v 0 _ _ _)
instance {v : L3} : FieldP eLat v 1 eI (v.2.1) 1 := inferInstanceAs (FieldP (eC (fun v : L3 => (v.1, v.2.1, v.2.2, ())) (eP eI (eP eI (eP eI eU)))) v 1 _ _ _)
instance {v : L3} : FieldP eLat v 2 eI (v.2.2) 2 := inferInstanceAs (FieldP (eC (fun v : L3 => (v.1, v.2.1, v.2.2, ())) (eP eI (eP eI (eP eI eU)))) v 2 _ _ _)
instance {ks r : List Know} {a b c : Int} [h : RdOf ks (eP eI (eP eI (eP eI eU))) (a, b, c, ()) r] : RdOf ks eLat ((a, b, c)) r := ⟨fun h' => h.imp h'⟩
end Go.Fl

/- Bounds of lattices; potentials along a search. Plain Lean, no program in sight. -/
namespace Go.Fl
theorem dvd_bnd {a b : Int} (h : a ∣ b) (hb : b ≠ 0) : a.natAbs ≤ b.natAbs := Nat.le_of_dvd (by omega) (Int.natAbs_dvd_natAbs.2 h)
structure Bd (N : Nat) (l : L3) : Prop where
  c : l.2.2.natAbs ≤ N
  a : l.1.natAbs ≤ 2 * N * N
  b : l.1 = 0 → l.2.1.natAbs ≤ N
theorem Bd.zero {N : Nat} : Bd N (0, 0, 0) := ⟨by simp, by simp, by simp⟩
theorem Bd.bb {N : Nat} {l : L3} (nf : NF l) (h : Bd N l) : l.2.1.natAbs ≤ 2 * N * N + N := by
  by_cases h0 : l.1 = 0
  · have := h.b h0; omega
  · have := nf.b (by have := nf.a; omega)
    have := h.a
    omega
theorem latA_bd {N : Nat} {l : L3} {v : V2} (nf : NF l) (h : Bd N l) (h1 : v.1.natAbs ≤ N) (h2 : v.2.natAbs ≤ N) : Bd N (latA l v) := by
  obtain ⟨nf', sp⟩ := latA_spec l v
  have in1 : InL (latA l v) (l.1, 0) := (sp _).2 ⟨1, 0, 0, by simp, by simp⟩
  have in2 : InL (latA l v) (l.2.1, l.2.2) := (sp _).2 ⟨0, 1, 0, by simp, by simp⟩
  have in3 : InL (latA l v) v := (sp _).2 ⟨0, 0, 1, by simp, by simp⟩
  have oA := (sp _).1 (InL.A (l := latA l v))
  have oB := (sp _).1 (InL.B (l := latA l v))
  have hlin : ∀ x y : Int, x.natAbs ≤ N → y.natAbs ≤ N → (x * y).natAbs ≤ N * N := fun x y hx hy => by rw [Int.natAbs_mul]; exact Nat.mul_le_mul hx hy
  have hNN : N ≤ 2 * N * N := by
    rcases Nat.eq_zero_or_pos N with e | e
    · subst e; simp
    · have : 2 * N * 1 ≤ 2 * N * N := Nat.mul_le_mul_left _ e
      omega
  refine ⟨?_, ?_, fun hA0 => ?_⟩
  · by_cases hC : l.2.2 = 0
    · by_cases hv : v.2 = 0
      · obtain ⟨m, n, k, _, e2⟩ := oB
        simp only [hC, hv, Int.mul_zero, Int.add_zero] at e2
        rw [e2]; simp
      · exact Nat.le_trans (dvd_bnd in3.dvdC hv) h2
    · exact Nat.le_trans (dvd_bnd in2.dvdC hC) h.c
  · have d1 := in1.dvdA nf'
    by_cases hA : l.1 = 0
    · have hB := h.b hA
      have inD : InL (latA l v) (v.2 * l.2.1 - l.2.2 * v.1, 0) := (sp _).2 ⟨0, v.2, -l.2.2, by simp only; rw [hA, Int.neg_mul]; omega, by simp only; rw [Int.neg_mul, Int.mul_comm v.2]; omega⟩
      by_cases hD : v.2 * l.2.1 - l.2.2 * v.1 = 0
      · obtain ⟨m, n, k, e1, e2⟩ := oA
        simp only at e1 e2
        rw [hA, Int.mul_zero, Int.zero_add] at e1
        by_cases hC : l.2.2 = 0
        · rw [nf.z hC, Int.mul_zero, Int.zero_add] at e1
          rw [hC, Int.mul_zero, Int.zero_add] at e2
          by_cases hv : v.2 = 0
          · by_cases hv1 : v.1 = 0
            · rw [e1, hv1]; simp
            · have := dvd_bnd (InL.dvdA nf' (x := v.1) (by rw [show (v.1, (0 : Int)) = v from Prod.ext rfl hv.symm]; exact in3)) hv1
              omega
          · rcases Int.mul_eq_zero.1 e2.symm with q | q
            · rw [e1, q]; simp
            · exact absurd q hv
        · have hz : (latA l v).1 * l.2.2 = 0 := by
            rw [e1, Int.add_mul, Int.mul_assoc k, show v.1 * l.2.2 = v.2 * l.2.1 by rw [Int.mul_comm v.1]; omega, Int.mul_assoc n, Int.mul_comm l.2.1, ← Int.mul_assoc, ← Int.mul_assoc, ← Int.add_mul, ← e2, Int.zero_mul]
          rcases Int.mul_eq_zero.1 hz with q | q
          · rw [q]; simp
          · exact absurd q hC
      · have := dvd_bnd (inD.dvdA nf') hD
        have q1 := hlin v.2 l.2.1 h2 hB
        have q2 := hlin l.2.2 v.1 h.c h1
        rw [Nat.mul_assoc]
        omega
    · exact Nat.le_trans (dvd_bnd d1 hA) h.a
  · have d1 := in1.dvdA nf'
    rw [hA0] at d1
    have hA : l.1 = 0 := Int.zero_dvd.1 d1
    have hB := h.b hA
    by_cases hC' : (latA l v).2.2 = 0
    · rw [nf'.z hC']; simp
    · have key : ∀ x y : Int, InL (latA l v) (x, y) → y ≠ 0 → (latA l v).2.1.natAbs ≤ x.natAbs := fun x y hin hy => by
        obtain ⟨m, n, e1, e2⟩ := hin
        simp only at e1 e2
        rw [hA0, Int.mul_zero, Int.zero_add] at e1
        have hn : n ≠ 0 := fun e => hy (by rw [e2, e, Int.zero_mul])
        rw [e1, Int.natAbs_mul]
        have : 1 * (latA l v).2.1.natAbs ≤ n.natAbs * (latA l v).2.1.natAbs := Nat.mul_le_mul_right _ (by omega)
        omega
      by_cases hC : l.2.2 = 0
      · by_cases hv : v.2 = 0
        · obtain ⟨m, n, k, _, e2⟩ := oB
          simp only [hC, hv, Int.mul_zero, Int.add_zero] at e2
          exact absurd e2 hC'
        · exact Nat.le_trans (key v.1 v.2 in3 hv) h1
      · exact Nat.le_trans (key _ _ in2 hC) hB
/-- What put and Add ask for. -/
theorem Bd.start {N : Nat} {l : L3} {v : V2} (nf : NF l) (h : Bd N l) (h1 : v.1.natAbs ≤ N) (h2 : v.2.natAbs ≤ N) : EuS l v ((2 * N * N + N) * N + N * N + N) N l.2.1 l.2.2 v.1 v.2 := by
  have hb := h.bb nf
  have q1 : l.2.1.natAbs * v.2.natAbs ≤ (2 * N * N + N) * N := Nat.mul_le_mul hb h2
  have q2 : v.1.natAbs * l.2.2.natAbs ≤ N * N := Nat.mul_le_mul h1 h.c
  refine EuS.start nf (by omega) ?_ (by omega) h.c h2
  rcases Nat.eq_zero_or_pos N with e | e
  · subst e; omega
  · have : (2 * N * N + N) * 1 ≤ (2 * N * N + N) * N := Nat.mul_le_mul_left _ e
    omega
end Go.Fl

/- Potentials along a search. Plain Lean, no program in sight. -/
namespace Go.Fl
/-- A square that is reached by steps within K, along which the potential grows. -/
inductive TreeIn (o : Ori) (p : Int → V2) (K : Int → Prop) : Int → Prop
  | base : K 0 → TreeIn o p K 0
  | r {x : Int} : Sq o.1.length x → TreeIn o p K x → K (ap o.1 x) → p (ap o.1 x) = ((p x).1 + 1, (p x).2) → TreeIn o p K (ap o.1 x)
  | u {x : Int} : Sq o.1.length x → TreeIn o p K x → K (ap o.2 x) → p (ap o.2 x) = ((p x).1, (p x).2 + 1) → TreeIn o p K (ap o.2 x)
theorem TreeIn.inn {o : Ori} {p : Int → V2} {K : Int → Prop} {x : Int} (h : TreeIn o p K x) : K x := by cases h <;> assumption
theorem TreeIn.mono {o : Ori} {p p' : Int → V2} {K K' : Int → Prop} (hK : ∀ x, K x → K' x) (hp : ∀ x, K x → p' x = p x) {x : Int} (h : TreeIn o p K x) : TreeIn o p' K' x := by
  induction h with
  | base h => exact .base (hK _ h)
  | r hx h hk e ih => exact .r hx ih (hK _ hk) (by rw [hp _ hk, hp _ h.inn]; exact e)
  | u hx h hk e ih => exact .u hx ih (hK _ hk) (by rw [hp _ hk, hp _ h.inn]; exact e)
theorem TreeIn.tree {o : Ori} {p : Int → V2} {K : Int → Prop} {x : Int} (h : TreeIn o p K x) : TreeP o p x := by
  induction h with
  | base => exact .base
  | r hx _ _ e ih => exact .r hx ih e
  | u hx _ _ e ih => exact .u hx ih e
/-- What is known of the potentials p of the squares K; m: how many these are. -/
structure PS (o : Ori) (K : Int → Prop) (p : Int → V2) (m : Nat) : Prop where
  k0 : K 0
  p0 : p 0 = (0, 0)
  t : ∀ x, K x → TreeIn o p K x
  b : ∀ x, K x → 0 ≤ (p x).1 ∧ 0 ≤ (p x).2 ∧ (p x).1 + (p x).2 < m
theorem PS.congr {o : Ori} {K K' : Int → Prop} {p p' : Int → V2} {m : Nat} (h : PS o K p m) (hK : ∀ x, K x ↔ K' x) (hp : ∀ x, K x → p' x = p x) : PS o K' p' m :=
  ⟨(hK _).1 h.k0, by rw [hp _ h.k0]; exact h.p0, fun x hx => (h.t x ((hK x).2 hx)).mono (fun y hy => (hK y).1 hy) hp, fun x hx => by rw [hp _ ((hK x).2 hx)]; exact h.b x ((hK x).2 hx)⟩
theorem PS.start {o : Ori} {p : Int → V2} (h : p 0 = (0, 0)) : PS o (fun x => x = 0) p 1 :=
  ⟨rfl, h, fun x hx => by subst hx; exact .base rfl, fun x hx => by subst hx; rw [h]; exact ⟨Int.le_refl _, Int.le_refl _, by simp⟩⟩
def updP (p : Int → V2) (y : Int) (w : V2) : Int → V2 := fun z => if z = y then w else p z
theorem updP_same {p : Int → V2} {y : Int} {w : V2} : updP p y w y = w := if_pos rfl
theorem updP_ne {p : Int → V2} {y z : Int} {w : V2} (h : z ≠ y) : updP p y w z = p z := if_neg h
theorem PS.grow {o : Ori} {K : Int → Prop} {p : Int → V2} {m : Nat} (h : PS o K p m) {x y : Int} (hx : Sq o.1.length x) (hk : K x) (hy : ¬ K y) {w : V2} (hw : (y = ap o.1 x ∧ w = ((p x).1 + 1, (p x).2)) ∨ (y = ap o.2 x ∧ w = ((p x).1, (p x).2 + 1))) :
    PS o (fun z => K z ∨ z = y) (updP p y w) (m + 1) := by
  have hne : ∀ z, K z → z ≠ y := fun z hz e => hy (e ▸ hz)
  have hold : ∀ z, K z → updP p y w z = p z := fun z hz => updP_ne (hne z hz)
  have hb := h.b x hk
  refine ⟨.inl h.k0, by rw [hold _ h.k0]; exact h.p0, fun z hz => ?_, fun z hz => ?_⟩
  · rcases hz with hz | rfl
    · exact (h.t z hz).mono (fun _ h => .inl h) hold
    · have ht := (h.t x hk).mono (K' := fun z' => K z' ∨ z' = z) (p' := updP p z w) (fun _ h => .inl h) hold
      rcases hw with ⟨rfl, rfl⟩ | ⟨rfl, rfl⟩
      · exact .r hx ht (.inr rfl) (by rw [updP_same, hold x hk])
      · exact .u hx ht (.inr rfl) (by rw [updP_same, hold x hk])
  · rcases hz with hz | rfl
    · rw [hold _ hz]
      have := h.b z hz
      omega
    · rw [updP_same]
      rcases hw with ⟨_, rfl⟩ | ⟨_, rfl⟩ <;> exact ⟨by simp only; omega, by simp only; omega, by simp only; omega⟩
theorem PS.pot {o : Ori} {K : Int → Prop} {p : Int → V2} {m : Nat} (h : PS o K p m) (hall : ∀ x, Sq o.1.length x → K x) : PotT o p := ⟨h.p0, fun x hx => (h.t x (hall x hx)).tree⟩
/-! ### The reference's search -/
def pOf (px py : List Int) : Int → V2 := fun x => (nth px x.toNat, nth py x.toNat)
def knP (n : Nat) (kn : List Bool) : Int → Prop := fun x => Sq n x ∧ nth kn x.toNat = true
structure RS (o : Ori) (px py : List Int) (kn : List Bool) : Prop where
  lx : px.length = o.1.length
  ly : py.length = o.1.length
  lk : kn.length = o.1.length
  ps : PS o (knP o.1.length kn) (pOf px py) (kn.count true)
theorem nth_setB {kn : List Bool} {i j : Nat} (hi : i < kn.length) : nth (kn.set i true) j = if j = i then true else nth kn j := by
  unfold nth
  simp only [List.getD_eq_getElem?_getD, List.getElem?_set]
  by_cases e : i = j
  · subst e; simp [hi]
  · rw [if_neg e, if_neg (fun h => e h.symm)]
theorem nth_setI {xs : List Int} {i j : Nat} {v : Int} (hi : i < xs.length) : nth (xs.set i v) j = if j = i then v else nth xs j := by
  unfold nth
  simp only [List.getD_eq_getElem?_getD, List.getElem?_set]
  by_cases e : i = j
  · subst e; simp [hi]
  · rw [if_neg e, if_neg (fun h => e h.symm)]
theorem count_setB {kn : List Bool} {i : Nat} (hi : i < kn.length) (h : nth kn i = false) : (kn.set i true).count true = kn.count true + 1 := by
  rw [List.count_set hi]
  have e : kn[i] = false := by rw [← h]; unfold nth; simp [List.getD_eq_getElem?_getD, hi]
  rw [e]; simp
theorem RS.grow {o : Ori} {px py : List Int} {kn : List Bool} (h : RS o px py kn) {x y a b : Int} (hx : Sq o.1.length x) (hy : Sq o.1.length y) (hk : nth kn x.toNat = true) (hn : nth kn y.toNat = false)
    (hw : (y = ap o.1 x ∧ a = nth px x.toNat + 1 ∧ b = nth py x.toNat) ∨ (y = ap o.2 x ∧ a = nth px x.toNat ∧ b = nth py x.toNat + 1)) : RS o (px.set y.toNat a) (py.set y.toNat b) (kn.set y.toNat true) := by
  have hyl : y.toNat < o.1.length := by have := hy.1; have := hy.2; omega
  refine ⟨by rw [List.length_set]; exact h.lx, by rw [List.length_set]; exact h.ly, by rw [List.length_set]; exact h.lk, ?_⟩
  rw [count_setB (by rw [h.lk]; exact hyl) hn]
  have hg := h.ps.grow (y := y) (w := (a, b)) hx ⟨hx, hk⟩ (fun hh => by rw [hh.2] at hn; cases hn) (by
    rcases hw with ⟨h1, h2, h3⟩ | ⟨h1, h2, h3⟩
    · exact .inl ⟨h1, by rw [h2, h3]; rfl⟩
    · exact .inr ⟨h1, by rw [h2, h3]; rfl⟩)
  refine hg.congr (fun z => ?_) (fun z hz => ?_)
  · unfold knP
    rw [nth_setB (by rw [h.lk]; exact hyl)]
    constructor
    · rintro (⟨h1, h2⟩ | rfl)
      · exact ⟨h1, by rw [h2]; simp⟩
      · exact ⟨hy, by simp⟩
    · rintro ⟨h1, h2⟩
      by_cases e : z = y
      · exact .inr e
      · rw [if_neg (by have := h1.1; have := hy.1; omega)] at h2
        exact .inl ⟨h1, h2⟩
  · have hzs : Sq o.1.length z := by
      rcases hz with hz | rfl
      · exact hz.1
      · exact hy
    unfold pOf updP
    rw [nth_setI (by rw [h.lx]; exact hyl), nth_setI (by rw [h.ly]; exact hyl)]
    by_cases e : z = y
    · rw [if_pos e, if_pos (by rw [e]), if_pos (by rw [e])]
    · have e2 : z.toNat ≠ y.toNat := by have := hzs.1; have := hy.1; omega
      rw [if_neg e, if_neg e2, if_neg e2]
end Go.Fl

/- The reference's rounds; the vectors of a potential. Plain Lean, no program in sight. -/
namespace Go.Fl
theorem RS.start {o : Ori} (v : Valid o) : RS o (List.replicate o.1.length 0) (List.replicate o.1.length 0) ((List.replicate o.1.length false).set 0 true) := by
  have hn := v.pos
  refine ⟨by simp, by simp, by simp, ?_⟩
  have hf : ∀ j, nth (List.replicate o.1.length false) j = false := fun j => by
    unfold nth
    rw [List.getD_eq_getElem?_getD, List.getElem?_replicate]
    split <;> rfl
  have hz : ∀ j, nth (List.replicate o.1.length (0 : Int)) j = 0 := fun j => by
    unfold nth
    rw [List.getD_eq_getElem?_getD, List.getElem?_replicate]
    split <;> rfl
  rw [count_setB (by simpa using hn) (hf 0)]
  have h0 : (List.replicate o.1.length false).count true = 0 := by rw [List.count_replicate]; rfl
  rw [h0]
  have hs := PS.start (o := o) (p := pOf (List.replicate o.1.length 0) (List.replicate o.1.length 0)) (by unfold pOf; rw [hz])
  refine hs.congr (fun x => ?_) (fun _ _ => rfl)
  unfold knP
  rw [nth_setB (by simpa using hn), hf]
  constructor
  · rintro rfl
    exact ⟨⟨Int.le_refl _, by omega⟩, by simp⟩
  · rintro ⟨h1, h2⟩
    by_cases e : x.toNat = 0
    · have := h1.1; omega
    · rw [if_neg e] at h2; cases h2
def Cl (o : Ori) (kn : List Bool) (i : Nat) : Prop := nth kn i = true → nth kn (nth o.1 i).toNat = true ∧ nth kn (nth o.2 i).toNat = true
/-- Within a round, before square s; c: how many were known at its beginning. -/
def Mv (o : Ori) (c s : Nat) (px py : List Int) (kn : List Bool) : Prop := RS o px py kn ∧ (c < kn.count true ∨ (kn.count true = c ∧ ∀ i, i < s → Cl o kn i))
/-- Halfway through a square. -/
def Mh (o : Ori) (c s : Nat) (px py : List Int) (kn : List Bool) : Prop := RS o px py kn ∧ (c < kn.count true ∨ (kn.count true = c ∧ (∀ i, i < s → Cl o kn i) ∧ (nth kn s = true → nth kn (nth o.1 s).toNat = true)))
section
variable {o : Ori} {c s : Nat} {px py : List Int} {kn : List Bool}
theorem Mv.zero (h : RS o px py kn) : Mv o (kn.count true) 0 px py kn := ⟨h, .inr ⟨rfl, fun _ h => absurd h (by omega)⟩⟩
theorem Mv.old (h : Mv o c s px py kn) (hk : ¬ (nth kn s = true ∧ nth kn (nth o.1 s).toNat = false)) : Mh o c s px py kn :=
  ⟨h.1, h.2.imp id fun ⟨h1, h2⟩ => ⟨h1, h2, fun h3 => by cases e : nth kn (nth o.1 s).toNat with | true => rfl | false => exact absurd ⟨h3, e⟩ hk⟩⟩
theorem Mv.new (v : Valid o) (h : Mv o c s px py kn) (hs : s < o.1.length) (h1 : nth kn s = true) (h2 : nth kn (nth o.1 s).toNat = false) :
    Mh o c s (px.set (nth o.1 s).toNat (nth px s + 1)) (py.set (nth o.1 s).toNat (nth py s)) (kn.set (nth o.1 s).toNat true) := by
  have hy : Sq o.1.length (nth o.1 s) := v.ri hs
  refine ⟨h.1.grow (x := (s : Int)) (Sq.nat hs) hy (by simpa using h1) h2 (.inl ⟨rfl, by simp, by simp⟩), .inl ?_⟩
  rw [count_setB (by rw [h.1.lk]; have := hy.1; have := hy.2; omega) h2]
  rcases h.2 with h | ⟨h, _⟩ <;> omega
theorem Mh.old (h : Mh o c s px py kn) (hk : ¬ (nth kn s = true ∧ nth kn (nth o.2 s).toNat = false)) : Mv o c (s + 1) px py kn :=
  ⟨h.1, h.2.imp id fun ⟨h1, h2, h3⟩ => ⟨h1, fun i hi => by
    by_cases e : i = s
    · subst e
      exact fun h4 => ⟨h3 h4, by cases e : nth kn (nth o.2 i).toNat with | true => rfl | false => exact absurd ⟨h4, e⟩ hk⟩
    · exact h2 i (by omega)⟩⟩
theorem Mh.new (v : Valid o) (h : Mh o c s px py kn) (hs : s < o.1.length) (h1 : nth kn s = true) (h2 : nth kn (nth o.2 s).toNat = false) :
    Mv o c (s + 1) (px.set (nth o.2 s).toNat (nth px s)) (py.set (nth o.2 s).toNat (nth py s + 1)) (kn.set (nth o.2 s).toNat true) := by
  have hy : Sq o.1.length (nth o.2 s) := v.ui hs
  refine ⟨h.1.grow (x := (s : Int)) (Sq.nat hs) hy (by simpa using h1) h2 (.inr ⟨rfl, by simp, by simp⟩), .inl ?_⟩
  rw [count_setB (by rw [h.1.lk]; have := hy.1; have := hy.2; omega) h2]
  rcases h.2 with h | ⟨h, _⟩ <;> omega
theorem RS.all (h : RS o px py kn) (hc : o.1.length ≤ kn.count true) : ∀ i, i < o.1.length → nth kn i = true := fun i hi => by
  have hl := List.count_le_length (a := true) (l := kn)
  rw [h.lk] at hl
  have := List.count_eq_length.1 (show kn.count true = kn.length by rw [h.lk]; omega) _ (nth_mem (xs := kn) (i := i) (by rw [h.lk]; exact hi))
  exact this.symm
/-- A round that changes nothing has come to its end. -/
theorem Mv.all (v : Valid o) (cn : Conn o) (h : Mv o c o.1.length px py kn) : c + 1 ≤ kn.count true ∨ o.1.length ≤ kn.count true := by
  rcases h.2 with h2 | ⟨_, h2⟩
  · exact .inl h2
  · refine .inr ?_
    have h0 := h.1.ps.k0
    have hF : Fwd o (fun x => nth kn x.toNat = true) := fun x hx hk => h2 x.toNat (by have := hx.1; have := hx.2; omega) hk
    have hall : ∀ x, Sq o.1.length x → nth kn x.toNat = true := fun x hx => reach_min v h0.1 hF h0.2 x (cn.all v h0.1 hx)
    have : kn.count true = kn.length := List.count_eq_length.2 fun b hb => by
      obtain ⟨i, hi, rfl⟩ := List.getElem_of_mem hb
      have := hall (i : Int) (Sq.nat (by rw [← h.1.lk]; exact hi))
      unfold nth at this
      simpa [List.getD_eq_getElem?_getD, hi] using this.symm
    rw [this, h.1.lk]; exact Nat.le_refl _
theorem RS.pot (h : RS o px py kn) (hc : o.1.length ≤ kn.count true) : PotT o (pOf px py) :=
  h.ps.pot fun x hx => ⟨hx, h.all hc _ (by have := hx.1; have := hx.2; omega)⟩
end
/-- The vectors of the first k squares. -/
def vecs (o : Ori) (p : Int → V2) (k : Nat) : List V2 := (List.range k).flatMap fun i : Nat => [dfR o p i, dfU o p i]
theorem vecs_mem {o : Ori} {p : Int → V2} {d : V2} : d ∈ vecs o p o.1.length ↔ Df o p d := by
  unfold vecs Df
  simp only [List.mem_flatMap, List.mem_range, List.mem_cons, List.not_mem_nil, or_false]
  constructor
  · rintro ⟨i, hi, h⟩
    exact ⟨i, Sq.nat hi, h⟩
  · rintro ⟨x, hx, h⟩
    refine ⟨x.toNat, by have := hx.1; have := hx.2; omega, ?_⟩
    rw [show ((x.toNat : Nat) : Int) = x by have := hx.1; omega]
    exact h
theorem latL_per {o : Ori} (v : Valid o) {p : Int → V2} (hp : PotT o p) : latL (vecs o p o.1.length) = perL o := by
  obtain ⟨h1, h2⟩ := latL_spec (vecs o p o.1.length)
  refine perL_eq v hp h1 fun u => (h2 u).trans ⟨Sp.mono fun d hd => Sp.gen (vecs_mem.1 hd), Sp.mono fun d hd => Sp.gen (vecs_mem.2 hd)⟩
section
variable {o : Ori} {px py : List Int} {kn : List Bool}
end
end Go.Fl

/- Contracts: the periods, in the reference. -/
namespace Go.Fl
open Go Go.Proofs

end Go.Fl

/- Contracts: genus. -/
namespace Go.Fl
open Go Go.Proofs

def genF (o : Ori) : Int := ((o.1.length : Int) - ((vtx o).length : Int)).tdiv 2 + 1
theorem gen_bd {a b : Nat} (h : b ≤ a) : 0 ≤ ((a : Int) - (b : Int)).tdiv 2 ∧ ((a : Int) - (b : Int)).tdiv 2 ≤ a := by rw [Int.tdiv_eq_ediv_of_nonneg (by omega)]; omega
set_option maxRecDepth 100000 in
theorem ct_oGenus (o : Ori) : Ct Try.prog 19 [kRd eO o] (kTup [kI (if chk1 o = 0 then genF o else 0), kI (chk1 o)]) := by
  refine Ct.mk Try.func19 rfl Try.ntmps19 rfl (fun w J => ?_)
  refine Tr.seq ?_
  refine Tr.rg ?_
  refine TrL.new (ok_box 1 rfl (fun _ => rfl) rfl) rfl rfl rfl rfl ?_
  refine TrL.op (ok_assign rfl (fun _ => rfl)) rfl rfl ?_
  refine TrL.op (ok_assign rfl (fun _ => rfl)) rfl rfl ?_
  refine TrL.fin ?_
  refine End.nxt ?_
  refine Tr.seq ?_
  refine Tr.seq ?_
  refine Tr.rg ?_
  refine TrL.op (ok_ldBS rfl (fun _ => rfl)) rfl rfl ?_
  refine TrL.op (ok_bslJ eO (fun hp => .cons rfl <| .nil) rfl rfl rfl rfl) rfl rfl ?_
  refine TrL.op (ok_call (fun hp => ct_connected [o]) (.a rfl (fun _ => rfl) <| .nil)) rfl rfl ?_
  refine TrL.op (ok_assign rfl (fun _ => rfl)) rfl rfl ?_
  refine TrL.fin ?_
  refine End.nxt ?_
  refine Tr.seq ?_
  refine Tr.rg ?_
  refine TrL.op (ok_move rfl (fun _ => rfl)) rfl rfl ?_
  refine TrL.op (ok_neq rfl (fun _ => rfl) rfl (fun _ => rfl)) rfl rfl ?_
  refine TrL.fin ?_
  refine End.nxt ?_
  refine Tr.cnd rfl ?_ ?_
  · intro h2
    replace h2 := of_decide_eq_true h2
    rw [connE_one] at h2
    refine Tr.seq ?_
    refine Tr.rg ?_
    refine TrL.op (ok_move rfl (fun _ => rfl)) rfl rfl ?_
    refine TrL.op (ok_assign rfl (fun _ => rfl)) rfl rfl ?_
    refine TrL.op (ok_assign rfl (fun _ => rfl)) rfl rfl ?_
    refine TrL.fin ?_
    refine End.nxt ?_
    refine Tr.ret ?_
    refine Rts.thn ?_
    exact Rts.res (fn := Try.f19) (ts := [2, 3]) rfl rfl (.i rfl (by rw [if_neg h2]) <| .i rfl (by rw [connE_one]) <| .nil)
  · intro h2
    replace h2 := Classical.not_not.1 (of_decide_eq_false h2)
    rw [connE_one] at h2
    obtain ⟨v, cn⟩ := chk1_zero h2
    have hv0 := v.pos
    have hv1 := v.len
    have hv2 := v.le
    have hvl := vtx_le (o := o)
    have hq := gen_bd (a := o.1.length) (b := (vtx o).length) (by omega)
    refine Tr.skip ?_
    refine End.nxt ?_
    refine Tr.seq ?_
    refine Tr.draw 7 mixed (by kernel_rfl) ?_
    refine RunD.op (ok_fldO rfl (fun _ => rfl)) rfl rfl ?_
    refine RunD.op (ok_ldB rfl (fun _ => rfl) rfl) rfl rfl ?_
    refine RunD.op (ok_lenJ rfl (fun _ => rfl)) rfl rfl ?_
    refine RunD.op (ok_ldBS rfl (fun _ => rfl)) rfl rfl ?_
    refine RunD.op (ok_call (fun hp => ct_comm _ v) (.s rfl (fun _ => rfl) rfl <| .nil)) rfl rfl ?_
    refine RunD.op (ok_call (fun hp => ct_cycV o v) (.a rfl (fun _ => rfl) <| .nil)) rfl rfl ?_
    refine RunD.op (ok_lenJ rfl (fun _ => rfl)) rfl rfl ?_
    refine RunD.z ?_
    refine TrL.op (ok_sub rfl (fun _ => rfl) rfl (fun _ => rfl) (fun _ => by omega)) rfl rfl ?_
    refine TrL.op (ok_quo rfl (fun _ => rfl) rfl (fun _ => rfl) (fun _ => by omega)) rfl rfl ?_
    refine TrL.op (ok_add rfl (fun _ => rfl) rfl (fun _ => rfl) (fun _ => by omega)) rfl rfl ?_
    refine TrL.op (ok_assign rfl (fun _ => rfl)) rfl rfl ?_
    refine TrL.op (ok_assign rfl (fun _ => rfl)) rfl rfl ?_
    refine TrL.fin ?_
    refine End.nxt ?_
    refine Tr.ret ?_
    exact Rts.res (fn := Try.f19) (ts := [2, 3]) rfl rfl (.i rfl (by rw [if_pos h2]; unfold genF; omega) <| .i rfl h2.symm <| .nil)

end Go.Fl

/- The program's search of periods: potentials along a list, a lattice of what has been looked at. Plain Lean, no program in sight. -/
namespace Go.Fl
def pAt (at' : List (Int × Int × Unit)) : Int → V2 := fun x => ((nth at' x.toNat).1, (nth at' x.toNat).2.1)
def edg (o : Ori) (x : Int) (e : Nat) : Int := if e = 0 then ap o.1 x else ap o.2 x
/-- One step further along an edge. -/
def uni (w : V2) (e : Nat) : V2 := if e = 0 then (w.1 + 1, w.2) else (w.1, w.2 + 1)
def dfE (o : Ori) (p : Int → V2) (x : Int) (e : Nat) : V2 := ((uni (p x) e).1 - (p (edg o x e)).1, (uni (p x) e).2 - (p (edg o x e)).2)
def Lkd (k j i e : Nat) : Prop := e < 2 ∧ (i < k ∨ (i = k ∧ e < j))
def DE (o : Ori) (p : Int → V2) (L : List Int) (k j : Nat) : V2 → Prop := fun d => ∃ i e, Lkd k j i e ∧ i < L.length ∧ d = dfE o p (nth L i) e
theorem to_uni {a b : Int} {j : Nat} : uni (a, b) j = (if j = 0 then (if j = 0 then a else b) + 1 else a, if j = 0 then b else (if j = 0 then a else b) + 1) := by
  unfold uni
  by_cases e : j = 0
  · simp only [if_pos e]
  · simp only [if_neg e]
theorem edg_stp {o : Ori} {x : Int} {j : Nat} (h : j < 2) : nth (stp o x) j = edg o x j := by
  rcases j with _ | _ | j
  · rfl
  · rfl
  · omega
structure PB (o : Ori) (k j : Nat) (at' : List (Int × Int × Unit)) (l : L3) (L : List Int) : Prop where
  len : at'.length = o.1.length
  gd : Good o.1.length L
  ps : PS o (· ∈ L) (pAt at') L.length
  nf : NF l
  bd : Bd 130 l
  cl : ∀ i e, Lkd k j i e → i < L.length → edg o (nth L i) e ∈ L
  sp : ∀ u, InL l u ↔ Sp (DE o (pAt at') L k j) u
section
variable {o : Ori} {k j : Nat} {at' : List (Int × Int × Unit)} {l : L3} {L : List Int}
theorem PB.start (v : Valid o) : PB o 0 0 (List.replicate o.1.length (0, 0, ())) (0, 0, 0) [0] := by
  have hn := v.pos
  have hz : pAt (List.replicate o.1.length (0, 0, ())) 0 = (0, 0) := by unfold pAt; rw [nth_rep (by simpa using hn)]
  refine ⟨by simp, good1 (s := 0) ⟨Int.le_refl _, by omega⟩, (PS.start hz).congr (fun x => by simp) (fun _ _ => rfl), nf_zero, Bd.zero, fun i e h => ?_, fun u => ?_⟩
  · rcases h.2 with h | ⟨_, h⟩ <;> omega
  · constructor
    · rintro ⟨m, n, h1, h2⟩
      have : u = (0, 0) := Prod.ext (by rw [h1]; simp) (by rw [h2]; simp)
      rw [this]; exact Sp.zero
    · intro h
      induction h with
      | zero => exact InL.zero
      | add k _ hd _ =>
        obtain ⟨i, e, h, _⟩ := hd
        rcases h.2 with h | ⟨_, h⟩ <;> omega
theorem PB.pb (h : PB o k j at' l L) (v : Valid o) {x : Int} (hx : x ∈ L) : 0 ≤ (pAt at' x).1 ∧ 0 ≤ (pAt at' x).2 ∧ (pAt at' x).1 < 60 ∧ (pAt at' x).2 < 60 := by
  have := h.ps.b x hx
  have := h.gd.len
  have := v.le
  omega
theorem uni_b {w : V2} {e : Nat} (h : 0 ≤ w.1 ∧ 0 ≤ w.2 ∧ w.1 < 60 ∧ w.2 < 60) : 0 ≤ (uni w e).1 ∧ 0 ≤ (uni w e).2 ∧ (uni w e).1 ≤ 60 ∧ (uni w e).2 ≤ 60 := by
  unfold uni
  split <;> simp only <;> omega
theorem PB.db (h : PB o k j at' l L) (v : Valid o) {x : Int} {e : Nat} (hx : x ∈ L) (hy : edg o x e ∈ L) : (dfE o (pAt at') x e).1.natAbs ≤ 130 ∧ (dfE o (pAt at') x e).2.natAbs ≤ 130 := by
  have h1 := uni_b (e := e) (h.pb v hx)
  have h2 := h.pb v hy
  unfold dfE
  simp only
  omega
theorem Lkd.succ {k j i e : Nat} (hj : j < 2) : Lkd k (j + 1) i e ↔ Lkd k j i e ∨ (i = k ∧ e = j) := by
  unfold Lkd; omega
/-- An edge to a square that is known. -/
theorem PB.old (h : PB o k j at' l L) (v : Valid o) (hk : k < L.length) (hj : j < 2) (hy : edg o (nth L k) j ∈ L) : PB o k (j + 1) at' (latA l (dfE o (pAt at') (nth L k) j)) L := by
  have hb := h.db v (nth_mem hk) hy
  obtain ⟨h1, h2⟩ := latA_spec l (dfE o (pAt at') (nth L k) j)
  refine ⟨h.len, h.gd, h.ps, h1, latA_bd h.nf h.bd hb.1 hb.2, fun i e hi hl => ?_, fun u => (h2 u).trans (Sp3_iff.trans ⟨?_, fun hu => ?_⟩)⟩
  · rcases (Lkd.succ hj).1 hi with hi | ⟨rfl, rfl⟩
    · exact h.cl i e hi hl
    · exact hy
  · rintro ⟨p, m, hp, rfl⟩
    refine Sp.add m (((h.sp p).1 hp).mono fun d hd => Sp.gen ?_) ⟨k, j, (Lkd.succ hj).2 (.inr ⟨rfl, rfl⟩), hk, rfl⟩
    obtain ⟨i, e, h3, h4, h5⟩ := hd
    exact ⟨i, e, (Lkd.succ hj).2 (.inl h3), h4, h5⟩
  · induction hu with
    | zero => exact ⟨(0, 0), 0, InL.zero, by simp⟩
    | @add w d m _ hd ih =>
      obtain ⟨p, q, hp, rfl⟩ := ih
      obtain ⟨i, e, h3, h4, h5⟩ := hd
      rcases (Lkd.succ hj).1 h3 with h3 | ⟨rfl, rfl⟩
      · exact ⟨_, q, (h.sp _).2 (Sp.add m ((h.sp p).1 hp) ⟨i, e, h3, h4, h5⟩), by simp only [Prod.mk.injEq]; exact ⟨by omega, by omega⟩⟩
      · subst h5
        exact ⟨p, q + m, hp, by simp only [Prod.mk.injEq, Int.add_mul]; exact ⟨by omega, by omega⟩⟩
theorem Sp.zero_iff {D E : V2 → Prop} (h1 : ∀ d, D d → E d) (h2 : ∀ d, E d → D d ∨ d = (0, 0)) {u : V2} : Sp D u ↔ Sp E u := by
  refine ⟨Sp.mono fun d hd => Sp.gen (h1 d hd), Sp.mono fun d hd => ?_⟩
  rcases h2 d hd with h | rfl
  · exact Sp.gen h
  · exact Sp.zero
theorem nth_setV {xs : List (Int × Int × Unit)} {i j : Nat} {w : Int × Int × Unit} (hi : i < xs.length) : nth (xs.set i w) j = if j = i then w else nth xs j := by
  unfold nth
  simp only [List.getD_eq_getElem?_getD, List.getElem?_set]
  by_cases e : i = j
  · subst e; simp [hi]
  · rw [if_neg e, if_neg (fun h => e h.symm)]
/-- An edge to a square that is new. -/
theorem PB.new (h : PB o k j at' l L) (hk : k < L.length) (hj : j < 2) (hys : Sq o.1.length (edg o (nth L k) j)) (hy : edg o (nth L k) j ∉ L) {a b : Int} (hw : (a, b) = uni (pAt at' (nth L k)) j) :
    PB o k (j + 1) (at'.set (edg o (nth L k) j).toNat (a, b, ())) l (L ++ [edg o (nth L k) j]) := by
  have hxs : Sq o.1.length (nth L k) := h.gd.rng _ (nth_mem hk)
  have hyl : (edg o (nth L k) j).toNat < at'.length := by rw [h.len]; have := hys.1; have := hys.2; omega
  have hup : ∀ z, Sq o.1.length z → pAt (at'.set (edg o (nth L k) j).toNat (a, b, ())) z = updP (pAt at') (edg o (nth L k) j) (a, b) z := fun z hz => by
    unfold pAt updP
    rw [nth_setV hyl]
    by_cases e : z = edg o (nth L k) j
    · rw [if_pos e, if_pos (by rw [e])]
    · rw [if_neg e, if_neg (by have := hz.1; have := hys.1; omega)]
  have hold : ∀ z, z ∈ L → pAt (at'.set (edg o (nth L k) j).toNat (a, b, ())) z = pAt at' z := fun z hz => by
    rw [hup z (h.gd.rng z hz)]; exact updP_ne (fun e => hy (by rw [← e]; exact hz))
  have hg := h.ps.grow (y := edg o (nth L k) j) (w := (a, b)) hxs (nth_mem hk) hy (by
    rw [hw]; unfold edg uni
    by_cases e : j = 0
    · exact .inl ⟨if_pos e, if_pos e⟩
    · exact .inr ⟨if_neg e, if_neg e⟩)
  have hnl : ∀ i e, Lkd k (j + 1) i e → i < (L ++ [edg o (nth L k) j]).length → i < L.length := fun i e hi hl => by
    unfold Lkd at hi; omega
  have hcl : ∀ i e, Lkd k (j + 1) i e → i < L.length → edg o (nth L i) e ∈ L ∨ edg o (nth L i) e = edg o (nth L k) j := fun i e hi hl => by
    rcases (Lkd.succ hj).1 hi with hi | ⟨rfl, rfl⟩
    · exact .inl (h.cl i e hi hl)
    · exact .inr rfl
  refine ⟨by rw [List.length_set]; exact h.len, h.gd.snoc hys.1 hys.2 hy, ?_, h.nf, h.bd, fun i e hi hl => ?_, fun u => (h.sp u).trans (Sp.zero_iff ?_ ?_)⟩
  · rw [List.length_append, List.length_singleton]
    refine hg.congr (fun x => by simp) (fun x hx => (hup x ?_).trans ?_)
    · rcases hx with hx | rfl
      · exact h.gd.rng x hx
      · exact hys
    · rfl
  · have hl' := hnl i e hi hl
    rw [nth_app_l hl']
    rcases hcl i e hi hl' with h1 | h1
    · exact List.mem_append_left _ h1
    · rw [h1]; exact List.mem_append_right _ List.mem_cons_self
  · rintro d ⟨i, e, h3, h4, h5⟩
    refine ⟨i, e, (Lkd.succ hj).2 (.inl h3), by rw [List.length_append]; omega, ?_⟩
    rw [nth_app_l h4, h5]
    unfold dfE
    rw [hold _ (nth_mem h4), hold _ (h.cl i e h3 h4)]
  · rintro d ⟨i, e, h3, h4, h5⟩
    have h4' := hnl i e h3 h4
    rw [nth_app_l h4'] at h5
    rcases (Lkd.succ hj).1 h3 with h6 | ⟨rfl, rfl⟩
    · refine .inl ⟨i, e, h6, h4', ?_⟩
      rw [h5]; unfold dfE
      rw [hold _ (nth_mem h4'), hold _ (h.cl i e h6 h4')]
    · refine .inr ?_
      rw [h5]; unfold dfE
      rw [hold _ (nth_mem h4'), hup _ hys, updP_same, ← hw]
      simp
theorem PB.two (h : PB o k 2 at' l L) : PB o (k + 1) 0 at' l L := by
  have e : ∀ i e, Lkd (k + 1) 0 i e ↔ Lkd k 2 i e := fun i e => by unfold Lkd; omega
  refine ⟨h.len, h.gd, h.ps, h.nf, h.bd, fun i e' hi hl => h.cl i e' ((e _ _).1 hi) hl, fun u => (h.sp u).trans ?_⟩
  constructor <;> refine Sp.mono fun d ⟨i, e', h3, h4, h5⟩ => Sp.gen ⟨i, e', ?_, h4, h5⟩
  · exact (e _ _).2 h3
  · exact (e _ _).1 h3
theorem PB.fin (v : Valid o) (cn : Conn o) (h : PB o k 0 at' l L) (hL : L = bfs o [] 0) (hk : L.length ≤ k) : l = perL o := by
  have hn := v.pos
  have hall : ∀ x, Sq o.1.length x → x ∈ L := fun x hx => by rw [hL]; exact cn.all v ⟨Int.le_refl _, by omega⟩ hx
  refine perL_eq v (h.ps.pot hall) h.nf fun u => (h.sp u).trans ?_
  constructor
  · refine Sp.mono fun d ⟨i, e, h3, h4, h5⟩ => Sp.gen ⟨nth L i, h.gd.rng _ (nth_mem h4), ?_⟩
    subst h5
    rcases e with _ | _ | e
    · exact .inl rfl
    · exact .inr rfl
    · exact absurd h3.1 (by omega)
  · refine Sp.mono fun d ⟨x, hx, hd⟩ => Sp.gen ?_
    obtain ⟨i, hi, rfl⟩ := mem_nth (hall x hx)
    rcases hd with rfl | rfl
    · exact ⟨i, 0, ⟨by omega, .inl (by omega)⟩, hi, rfl⟩
    · exact ⟨i, 1, ⟨by omega, .inl (by omega)⟩, hi, rfl⟩
end
end Go.Fl

/- Automorphisms, and the quotient by them. Plain Lean, no program in sight. -/
namespace Go.Fl
theorem ap_sqs {n : Nat} {x : Int} (h : Sq n x) : ap (sqs n) x = x := by
  have := h.1; have := h.2
  unfold ap sqs
  rw [nth_tab (by omega)]; omega
theorem sqs_len {n : Nat} : (sqs n).length = n := tab_len
theorem ap_thn {f g : List Int} {n : Nat} (hl : f.length = n) {x : Int} (hx : Sq n x) : ap (thenL f g) x = ap g (ap f x) := by
  have := hx.1; have := hx.2
  unfold ap thenL
  rw [nth_tab (by omega)]
theorem inR_of_ap {f : List Int} {n m : Nat} (hl : f.length = n) (h : ∀ x, Sq n x → Sq m (ap f x)) : inR f m := fun i hi => by
  have := h (i : Int) (Sq.nat (by rw [← hl]; exact hi))
  simpa [ap, Sq] using this
theorem hom_id {o : Ori} (v : Valid o) : IsHom o o (sqs o.1.length) :=
  ⟨sqs_len, inR_of_ap (n := o.1.length) sqs_len fun x hx => by rw [ap_sqs hx]; exact hx, fun x hx => by rw [ap_sqs (v.pR.aps hx), ap_sqs hx], fun x hx => by rw [ap_sqs (v.pU.aps hx), ap_sqs hx]⟩
theorem hom_comp {a b c : Ori} (va : Valid a) {f g : List Int} (hf : IsHom a b f) (hg : IsHom b c g) : IsHom a c (thenL f g) := by
  have e := fun {x} (hx : Sq a.1.length x) => ap_thn (g := g) hf.len hx
  refine ⟨by rw [thenL_len]; exact hf.len, inR_of_ap (n := a.1.length) (by rw [thenL_len]; exact hf.len) fun x hx => by rw [e hx]; exact hg.sq (hf.sq hx), fun x hx => ?_, fun x hx => ?_⟩
  · rw [e (va.pR.aps hx), e hx, hf.R x hx, hg.R _ (hf.sq hx)]
  · rw [e (va.pU.aps hx), e hx, hf.U x hx, hg.U _ (hf.sq hx)]
section
variable {o : Ori}
/-- A map between origamis meets every square, if the other one is connected. -/
theorem hom_onto {a b : Ori} (va : Valid a) (vb : Valid b) (cb : Conn b) {f : List Int} (h : IsHom a b f) {y : Int} (hy : Sq b.1.length y) : ∃ x, Sq a.1.length x ∧ ap f x = y := by
  have hp := va.pos
  have h0 : Sq a.1.length 0 := ⟨by omega, by omega⟩
  have hs := h.sq h0
  refine reach_min (G := fun y => ∃ x, Sq a.1.length x ∧ ap f x = y) vb hs (fun z _ hz => ?_) ⟨0, h0, rfl⟩ y (cb.all vb hs hy)
  obtain ⟨x, hx, rfl⟩ := hz
  exact ⟨⟨_, va.pR.aps hx, h.R x hx⟩, ⟨_, va.pU.aps hx, h.U x hx⟩⟩
/-- A list of n numbers below n that meets all of them. -/
theorem onto_sec {f : List Int} {n : Nat} (hl : f.length = n) (h : ∀ y, Sq n y → ∃ x, Sq n x ∧ ap f x = y) : ∃ g, Perm g n ∧ (∀ y, Sq n y → ap f (ap g y) = y) ∧ ∀ x, Sq n x → ap g (ap f x) = x := by
  have hmem : ∀ y, Sq n y → y ∈ f := fun y hy => by
    obtain ⟨x, hx, rfl⟩ := h y hy
    exact nth_mem (by have := hx.1; have := hx.2; omega)
  have hg : ∀ y, Sq n y → ap (tab n fun i : Nat => atL f i) y = atL f y := fun y hy => by
    have := hy.1; have := hy.2
    unfold ap
    rw [nth_tab (by omega), show ((y.toNat : Nat) : Int) = y by omega]
  have hfg : ∀ y, Sq n y → ap f (ap (tab n fun i : Nat => atL f i) y) = y := fun y hy => by rw [hg y hy]; exact nth_atL (hmem y hy)
  have hrg : ∀ y, Sq n y → Sq n (ap (tab n fun i : Nat => atL f i) y) := fun y hy => by
    rw [hg y hy]; have := atL_rng (hmem y hy); rw [hl] at this; exact this
  have P : Perm (tab n fun i : Nat => atL f i) n := by
    refine ⟨nodup_of_nth fun i j hi hj e => ?_, inR_of_ap tab_len hrg, tab_len⟩
    rw [tab_len] at hi hj
    have e1 := hfg i (Sq.nat hi)
    have e2 := hfg j (Sq.nat hj)
    unfold ap at e1 e2
    simp only [Int.toNat_natCast] at e1 e2
    rw [e] at e1
    omega
  refine ⟨_, P, hfg, fun x hx => ?_⟩
  obtain ⟨y, hy, rfl⟩ := P.onto hx
  rw [hfg y hy]
/-- An automorphism has an inverse. -/
theorem aut_inv (v : Valid o) (c : Conn o) {f : List Int} (h : IsHom o o f) : ∃ g, IsHom o o g ∧ ∀ x, Sq o.1.length x → ap g (ap f x) = x := by
  obtain ⟨g, P, h1, h2⟩ := onto_sec h.len fun y hy => hom_onto v v c h hy
  refine ⟨g, ⟨P.ln, P.rg, fun x hx => ?_, fun x hx => ?_⟩, h2⟩
  · have e := h.R _ (P.aps hx)
    rw [h1 x hx] at e
    rw [← e, h2 _ (v.pR.aps (P.aps hx))]
  · have e := h.U _ (P.aps hx)
    rw [h1 x hx] at e
    rw [← e, h2 _ (v.pU.aps (P.aps hx))]
def Rel (o : Ori) (x y : Int) : Prop := ∃ f, IsHom o o f ∧ ap f x = y
theorem Rel.refl (v : Valid o) {x : Int} (hx : Sq o.1.length x) : Rel o x x := ⟨_, hom_id v, ap_sqs hx⟩
theorem Rel.symm (v : Valid o) (c : Conn o) {x y : Int} (hx : Sq o.1.length x) (h : Rel o x y) : Rel o y x := by
  obtain ⟨f, hf, rfl⟩ := h
  obtain ⟨g, hg, e⟩ := aut_inv v c hf
  exact ⟨g, hg, e x hx⟩
theorem Rel.trans (v : Valid o) {x y z : Int} (hx : Sq o.1.length x) (h : Rel o x y) (k : Rel o y z) : Rel o x z := by
  obtain ⟨f, hf, rfl⟩ := h
  obtain ⟨g, hg, rfl⟩ := k
  exact ⟨_, hom_comp v hf hg, ap_thn hf.len hx⟩
/-! ### The least of a class -/
def mnL (A : List (List Int)) (x : Int) : Nat → Int
  | 0 => x
  | i + 1 => min (mnL A x i) (ap (nth A i) x)
noncomputable def mnO (o : Ori) (x : Int) : Int := mnL (mapsL o o) x (mapsL o o).length
/-! ### The classes -/
noncomputable def frs (o : Ori) : Nat → List Int
  | 0 => []
  | k + 1 => if mnO o k = k then frs o k ++ [(k : Int)] else frs o k
noncomputable def clsTo (o : Ori) (k : Nat) : List Int := tab o.1.length fun y : Nat => atL (frs o k) (mnO o y)
noncomputable def clsIn (o : Ori) (k i : Nat) : List Int := tab o.1.length fun y : Nat => if (y : Int) ∈ ((mapsL o o).take i).map (ap · k) then ((frs o k).length : Int) else atL (frs o k) (mnO o y)
noncomputable def cls (o : Ori) : List Int := clsTo o o.1.length
noncomputable def quoF (o : Ori) (p : List Int) (i : Nat) : Int := ap (cls o) (ap p (nth (frs o o.1.length) i))
noncomputable def quoO (o : Ori) : Ori := (tab (frs o o.1.length).length (quoF o o.1), tab (frs o o.1.length).length (quoF o o.2))
/-! ### The number of automorphisms divides that of the squares -/
end
end Go.Fl

/- Elements of an array of the call's own at a place that is not written out; parts of the elements of a row of the call's own. No program in sight. -/
namespace Go.Fl
open Go Go.RowKit
/-- A pointer to cell o of element i (of n cells) of one of the call's own rows, which has len elements. -/
def kElO (t n i len o : Nat) : Know := fun g v => i < len ∧ ∃ b cap, g.M t = some (.blk b cap) ∧ v = .pointer (some ⟨b, i * n + o, none⟩)
instance (t n i l o : Nat) : KDep (kElO t n i l o) [t] := ⟨fun _ hd ⟨h0, b, cap, h1, h2⟩ => ⟨h0, b, cap, (hd t (by simp)).trans h1, h2⟩⟩
instance {t n i l o : Nat} : OneC (kElO t n i l o) := ⟨fun ⟨_, _, _, _, h⟩ => by subst h; rfl⟩
instance (t n i l o : Nat) : KHas (kElO t n i l o) t := ⟨fun ⟨_, b, cap, h1, _⟩ => by rw [h1]; simp⟩
instance : ZeroE (eP eI (eP eI eU)) (.agg #[.int .i64 0, .int .i64 0]) (0, 0, ()) := ⟨fun _ => ⟨[.int .i64 0], [.int .i64 0], rfl, rfl, [.int .i64 0], [], rfl, rfl, rfl⟩⟩
/-- Cell o of what is encoded is the number f. -/
def CellI {α : Type} (e : Enc α) (o : Nat) (f : α → Int) : Prop := ∀ {J : JV} {ds : List Value} {x : α}, e.rd J ds x → ds[o]? = some (.int .i64 (f x))
theorem cellI_a : CellI (eP eI (eP eI eU)) 0 (fun x => x.1) := fun h => by
  obtain ⟨c1, c2, rfl, h1, h2⟩ := h
  cases h1; rfl
theorem cellI_b : CellI (eP eI (eP eI eU)) 1 (fun x => x.2.1) := fun h => by
  obtain ⟨c1, c2, rfl, h1, c3, c4, rfl, h2, h3⟩ := h
  cases h1; cases h2; rfl
section
variable {P : Program} {c : Ctx} {S : Slots} {M : Conts} {p : Bool} {d : Option Tmp} {ty : TypeId} {pos : String} {af : Array Edge} {gd : Option (Nat × Bool)} {x y : Operand} {b b' : Bool}
theorem ok_idxElA {t et : TypeId} {n : Nat} [ht : TyArr P t n et] {sz by' : Nat} {zz : Value} [hz : TySz P et sz by' zz] {u m i len : Nat} {ik : IntKind} {j : Int} (hx : opK S x = some (b, kEl u m i len)) (hb : p = true → b = true) (hy : opK S y = some (b', kInt ik j)) (hb' : p = true → b' = true) (h : p = true → 0 ≤ j ∧ j < n) :
    OpOk P c S M ⟨d, .indexAddr t x y, ty, pos, af, gd⟩ p (kElO u m i len (j.toNat * sz)) none :=
  OpOk.pure fun hp a g w _ _ ho => by
    obtain ⟨hi, bl, cap, h1, h2⟩ := ho x (by simp [Op.operands]) b _ hx (hb hp)
    have h3 : a.eval y = _ := ho y (by simp [Op.operands]) b' _ hy (hb' hp)
    have hlt := h hp
    obtain ⟨ti, hti, rfl, _, _⟩ := hz.h
    refine ⟨.pointer (some ⟨bl, i * m + j.toNat * ti.size, none⟩), ?_, hi, bl, cap, h1, rfl⟩
    simp [execOp, h2, h3, Instr.indexAt, run_underlying ht.h, asIntOf, hlt, sizeOf, typeInfo, hti, Instr.sureAddr, Addr.add_lit]
theorem ok_ldElI {t : TypeId} [ht : TyLeaf P t] {α : Type} [Inhabited α] {zb : Bool} {et : TypeId} {e : Enc α} {xs : List α} {u sz i len len' o : Nat} {dep : List Nat} [hl : LkM M u (cArr zb et e xs len') dep] {f : α → Int} (hf : CellI e o f) (hx : opK S x = some (b, kElO u sz i len o)) (hb : p = true → b = true)
    (hs : sz = e.n) (hle : len = len') : OpOk P c S M ⟨d, .load t x, ty, pos, af, gd⟩ p (kI (f (nth xs i))) none :=
  OpOk.pure fun hp a g w hok hc ho => by
    obtain ⟨hlt, bl, cap, h1, h2⟩ := ho x (by simp [Op.operands]) b _ hx (hb hp)
    obtain ⟨h0, _, cs, h3, _, _, _, h5⟩ := arr_of (xs := xs) hc h1
    obtain ⟨ds, k1, k2⟩ := h5 i _ (nth_get (by omega))
    have hcell : w.cell? ⟨bl, i * sz + o, none⟩ = some (.int .i64 (f (nth xs i))) := cell_own h3 (by rw [hs]; exact k2 o _ (hf k1))
    exact ⟨_, by simp only [execOp, h2, Sem.run_bind, run_loadAt_leaf (P := P) (t := t) hcell, Result.andThen_ok, Sem.run_pure], rfl⟩
theorem ok_ldBV {t : TypeId} [ht : TyLeaf P t] {u j : Nat} {a0 a1 : Int} {dep : List Nat} [hl : LkM M u (cBlk [kI a0, kI a1]) dep] (hj : j < 2) (hx : opK S x = some (b, kOwn u (0 + ((j : Nat) : Int).toNat * 1))) (hb : p = true → b = true) : OpOk P c S M ⟨d, .load t x, ty, pos, af, gd⟩ p (kI (if j = 0 then a0 else a1)) none := by
  rcases (show j = 0 ∨ j = 1 by omega) with rfl | rfl
  · exact ok_ldB (o := 0) hx hb rfl
  · exact ok_ldB (o := 1) hx hb rfl
end
section
variable {P : Program} {c : Ctx} {ops : Array Oper} {S : Slots} {M : Conts} {rest : List Oper} {Q : Exit → Act → World → Prop} {x y : Operand}
variable {ty : TypeId} {pos : String} {af : Array Edge}
theorem TrL.stBV {t : TypeId} {n by' : Nat} {zz : Value} [hz : TySz P t n by' zz] {u j : Nat} {a0 a1 v : Int} {dep : List Nat} {M' : Conts} (hj : j < 2) (hx : opK S x = some (true, kOwn u (0 + ((j : Nat) : Int).toNat * 1))) (hy : opK S y = some (true, kI v)) [hl : LkM M u (cBlk [kI a0, kI a1]) dep]
    [hup : UpM M u (cBlk [kI (if j = 0 then v else a0), kI (if j = 0 then a1 else v)]) [] M'] (hn : 1 = n) (K : TrL P c ops S M' rest Q) : TrL P c ops S M (⟨none, .store t x y, ty, pos, af, none⟩ :: rest) Q := by
  rcases (show j = 0 ∨ j = 1 by omega) with rfl | rfl
  · exact TrL.stB (o := 0) (ks := [kI a0, kI a1]) (kx := [kI v]) (ks' := [kI v, kI a1]) (dep' := []) (hup := hup) hx hy hn rfl K
  · exact TrL.stB (o := 1) (ks := [kI a0, kI a1]) (kx := [kI v]) (ks' := [kI a0, kI v]) (dep' := []) (hup := hup) hx hy hn rfl K
end
section
variable {P : Program} {c : Ctx} {ops : Array Oper} {S : Slots} {M : Conts} {rest : List Oper} {Q : Exit → Act → World → Prop}
variable {d : Nat} {ty : TypeId} {pos : String} {af : Array Edge}
/-- A call that changes what its first argument points to. -/
theorem TrL.mutP {f : FuncId} [hf : TyFn P f] {x : Operand} {args : List Operand} {tys : Array TypeId} {ks : List Know} {res : Know} {u : Nat} {ct ct0 ct' : Cont} {dep : List Nat} {M' : Conts} (hct : CtB P f (kOwn 0 0) ks ct ct' res) (hx : opK S x = some (true, kOwn u 0)) (ha : ArgsOk S true args ks)
    [hl : LkM M u ct0 dep] (hc : ∀ g b cap o, ct0 g (.blk b cap) o → ct (g1 g.J b cap) (.blk b cap) o) (hc' : ∀ {J b cap o} {g : Gh}, ct' (g1 J b cap) (.blk b cap) o → ct' ⟨J, g.M⟩ (.blk b cap) o) [hcd : CDep ct' []] [hup : UpM M u ct' [] M'] [hkd : KDep res []] (hn : Nat.blt d c.n = true)
    (K : TrL P c ops (⟨d, true, [], res⟩ :: S) M' rest Q) : TrL P c ops S M (⟨some d, .call { callee := .value (.func f), args := (x :: args).toArray, argTypes := tys }, ty, pos, af, none⟩ :: rest) Q := by
  intro a g w hsat
  have hdn : d < c.n := by simpa [Nat.blt_eq] using hn
  have hk := opK_holds hsat.slots hx rfl
  obtain ⟨b, cap, hm, hv⟩ := hk
  obtain ⟨bk2, hm2, hobj⟩ := hsat.conts _ hl.mem
  simp only at hm2 hobj
  rw [hm] at hm2; cases hm2
  obtain ⟨_, hlt, hJn⟩ := hsat.ok.own u b cap hm
  have hargs := ha.eval (g := g) (ρ := a.eval) rfl (fun y _ b k hk hb => opK_holds hsat.slots hk hb)
  have hr := hct w g.J b cap hsat.ok.im hJn hlt (hc _ _ _ _ hobj) _ _ ((inferInstance : Own1 (kOwn u 0) u (kOwn 0 0)).imp hm ⟨b, cap, hm, hv⟩) hargs
  refine wpList_plain rfl fun K' hK' => ?_
  unfold Oper.wp
  simp only [execOp, resolve, Act.eval, Deferred.ofValue, Sem.run_bind, Sem.run_pure, Result.andThen_ok, invoke, List.map_toArray, List.map_cons, Array.append_empty, Array.empty_append]
  rw [hf.run]
  simp only [Oper.upon]
  refine hr.mono fun e w' he => ?_
  obtain ⟨r, J', rfl, h1, h2, h3, h4, h5, h6⟩ := he
  exact hK' _ _ (K _ _ _ (hsat.mut hm h1 h2 h3 h4 hup hcd (hc' h6) hdn (hkd.dep (g := ⟨J', noM⟩) (JV.le_refl _) (fun _ h => by cases h) h5)))
end
end Go.Fl

/- Contracts: the periods, in the program. -/
namespace Go.Fl
open Go Go.Proofs

set_option maxRecDepth 100000 in
set_option maxHeartbeats 2000000 in
theorem ct_oPeriods (o : Ori) : Ct Try.prog 20 [kRd eO o] (kTup [kRd eLat (if chk1 o = 0 then perL o else (0, 0, 0)), kI (chk1 o)]) := by
  refine Ct.mk Try.func20 rfl Try.ntmps20 rfl (fun w J => ?_)
  refine Tr.seq ?_
  refine Tr.rg ?_
  refine TrL.new (ok_box 1 rfl (fun _ => rfl) rfl) rfl rfl rfl rfl ?_
  refine TrL.new (ok_alloc 2) rfl rfl rfl rfl ?_
  refine TrL.op (ok_assign rfl (fun _ => rfl)) rfl rfl ?_
  refine TrL.fin ?_
  refine End.nxt ?_
  refine Tr.seq ?_
  refine Tr.seq ?_
  refine Tr.rg ?_
  refine TrL.op (ok_ldBS rfl (fun _ => rfl)) rfl rfl ?_
  refine TrL.op (ok_bslJ eO (fun hp => .cons rfl <| .nil) rfl rfl rfl rfl) rfl rfl ?_
  refine TrL.op (ok_call (fun hp => ct_connected [o]) (.a rfl (fun _ => rfl) <| .nil)) rfl rfl ?_
  refine TrL.op (ok_assign rfl (fun _ => rfl)) rfl rfl ?_
  refine TrL.fin ?_
  refine End.nxt ?_
  refine Tr.seq ?_
  refine Tr.rg ?_
  refine TrL.op (ok_move rfl (fun _ => rfl)) rfl rfl ?_
  refine TrL.op (ok_neq rfl (fun _ => rfl) rfl (fun _ => rfl)) rfl rfl ?_
  refine TrL.fin ?_
  refine End.nxt ?_
  refine Tr.cnd rfl ?_ ?_
  · intro h2
    replace h2 := of_decide_eq_true h2
    rw [connE_one] at h2
    refine Tr.seq ?_
    refine Tr.rg ?_
    refine TrL.op (ok_build (fun hp => .nil)) rfl rfl ?_
    refine TrL.op (ok_move rfl (fun _ => rfl)) rfl rfl ?_
    refine TrL.stB rfl rfl rfl rfl ?_
    refine TrL.op (ok_assign rfl (fun _ => rfl)) rfl rfl ?_
    refine TrL.fin ?_
    refine End.nxt ?_
    refine Tr.ret ?_
    refine Rts.thn ?_
    exact Rts.resC (fn := Try.f20) (ts := [3]) rfl rfl rfl (aggRd rfl (by rw [if_neg h2])) (.i rfl (by rw [connE_one]) <| .nil)
  · intro h2
    replace h2 := Classical.not_not.1 (of_decide_eq_false h2)
    rw [connE_one] at h2
    obtain ⟨v, cn⟩ := chk1_zero h2
    have hv0 := v.pos
    have hv1 := v.len
    have hv2 := v.le
    have h00 : Sq o.1.length 0 := ⟨by omega, by omega⟩
    have hg0 := good1 h00
    refine Tr.skip ?_
    refine End.nxt ?_
    refine Tr.seq ?_
    refine Tr.rg ?_
    refine TrL.op (ok_fldO rfl (fun _ => rfl)) rfl rfl ?_
    refine TrL.op (ok_ldB rfl (fun _ => rfl) rfl) rfl rfl ?_
    refine TrL.op (ok_lenJ rfl (fun _ => rfl)) rfl rfl ?_
    refine TrL.op (ok_assign rfl (fun _ => rfl)) rfl rfl ?_
    refine TrL.fin ?_
    refine End.nxt ?_
    refine Tr.seq ?_
    refine Tr.draw 5 mixed (by kernel_rfl) ?_
    refine RunD.op (ok_move rfl (fun _ => rfl)) rfl rfl ?_
    refine RunD.new (ok_makeN (eP eI (eP eI eU)) 26 rfl (fun _ => rfl) rfl (fun _ => rfl) rfl rfl rfl (fun _ => by omega)) rfl rfl rfl rfl ?_
    refine RunD.op (ok_move rfl (fun _ => rfl)) rfl rfl ?_
    refine RunD.new (ok_makeN eBool 28 rfl (fun _ => rfl) rfl (fun _ => rfl) rfl rfl rfl (fun _ => by omega)) rfl rfl rfl rfl ?_
    refine RunD.opN (ok_assign rfl (fun _ => rfl)) rfl rfl ?_
    refine RunD.z ?_
    refine TrL.op (ok_assign rfl (fun _ => rfl)) rfl rfl ?_
    refine TrL.fin ?_
    refine End.nxt ?_
    refine Tr.seq ?_
    refine Tr.rg ?_
    refine TrL.op (ok_move rfl (fun _ => rfl)) rfl rfl ?_
    first | refine TrL.op (ok_idxEN rfl (fun _ => rfl) rfl (fun _ => rfl) (fun _ => by omega)) rfl rfl ?_ | refine TrL.op (ok_idxE rfl (fun _ => rfl) rfl (fun _ => rfl) (fun _ => by omega)) rfl rfl ?_
    refine TrL.stE rfl rfl rfl rfl rfl ?_
    refine TrL.fin ?_
    refine End.nxt ?_
    refine Tr.seq ?_
    refine Tr.rg ?_
    refine TrL.new (ok_bsl eI 31 (fun hp => .cons rfl <| .nil) rfl rfl rfl rfl) rfl rfl rfl rfl ?_
    refine TrL.op (ok_assign rfl (fun _ => rfl)) rfl rfl ?_
    refine TrL.fin ?_
    refine End.nxt ?_
    refine Tr.seq ?_
    refine Tr.rg ?_
    refine TrL.new (ok_alloc 9) rfl rfl rfl rfl ?_
    refine TrL.fin ?_
    refine End.nxt ?_
    refine Tr.seq ?_
    refine Tr.seq ?_
    refine Tr.rg ?_
    refine TrL.op (ok_assign rfl (fun _ => rfl)) rfl rfl ?_
    refine TrL.fin ?_
    refine End.nxt ?_
    refine Tr.for1 (σ := Nat × List (Int × Int × Unit) × L3) [⟨1, true, _, _⟩, ⟨2, true, _, _⟩, ⟨6, true, _, _⟩, ⟨7, true, _, _⟩, ⟨9, true, _, _⟩] [⟨1, _, _⟩, ⟨2, _, _⟩] (fun (k, at0, l0) => [⟨8, true, [31], kOsl 31 (bfsTo o [] 0 k).length⟩, ⟨10, true, [], kI (k : Int)⟩]) (fun (k, at0, l0) => [⟨26, [], cArr false 79 (eP eI (eP eI eU)) at0 o.1.length⟩, ⟨28, [], cArr false 4 eBool (seenB o.1.length (bfsTo o [] 0 k)) o.1.length⟩, ⟨9, [], cBlk [kI l0.1, kI l0.2.1, kI l0.2.2]⟩, ⟨31, [], cArr false 3 eI (bfsTo o [] 0 k) (bfsTo o [] 0 k).length⟩]) (fun (k, at0, l0) => k ≤ o.1.length ∧ PB o k 0 at0 l0 (bfsTo o [] 0 k)) (fun (k, at0, l0) => l0 = perL o) (fun (k, at0, l0) => o.1.length - k) ((0, List.replicate o.1.length (0, 0, ()), (0, 0, 0))) ⟨Nat.zero_le _, PB.start v⟩ (Ent.mk (.o rfl (by first | rfl | omega | (simp; done) | (simp; omega) | assumption) rfl <| .i rfl (by first | rfl | omega | (simp; done) | (simp; omega) | assumption) <| .k rfl rfl <| .k rfl rfl <| .k rfl rfl <| .k rfl rfl <| .k rfl rfl <| .nil) (.a (by first | rfl | omega | (simp; done) | (simp; omega) | assumption) (by first | rfl | omega | (simp; done) | (simp; omega) | assumption) <| .a (by rw [seenB_nil]; exact seenB_set (x := 0) (by omega)) (by first | rfl | omega | (simp; done) | (simp; omega) | assumption) <| .e (by rfl) rfl <| .a (by first | rfl | omega | (simp; done) | (simp; omega) | assumption) (by first | rfl | omega | (simp; done) | (simp; omega) | assumption) <| .k rfl <| .k rfl <| .nil) rfl) ?_ ?_
    · rintro ⟨k, at0, l0⟩ ⟨hk, hpb⟩
      refine Tr.norm (S' := [⟨8, true, _, _⟩, ⟨10, true, _, _⟩, ⟨1, true, _, _⟩, ⟨2, true, _, _⟩, ⟨6, true, _, _⟩, ⟨7, true, _, _⟩, ⟨9, true, _, _⟩]) (M' := [⟨26, _, _⟩, ⟨28, _, _⟩, ⟨9, _, _⟩, ⟨31, _, _⟩, ⟨1, _, _⟩, ⟨2, _, _⟩]) rfl rfl ?_
      have hlen := bfsTo_len v hg0 k
      have hat0 := hpb.len
      refine Tr.seq ?_
      refine Tr.seq ?_
      refine Tr.rg ?_
      refine TrL.op (ok_move rfl (fun _ => rfl)) rfl rfl ?_
      refine TrL.op (ok_move rfl (fun _ => rfl)) rfl rfl ?_
      refine TrL.op (ok_lenO rfl (fun _ => rfl)) rfl rfl ?_
      refine TrL.op (ok_lss rfl (fun _ => rfl) rfl (fun _ => rfl)) rfl rfl ?_
      refine TrL.fin ?_
      refine End.nxt ?_
      refine Tr.cnd rfl ?_ ?_
      · intro h10
        replace h10 := of_decide_eq_true h10
        have hlt : k < (bfsTo o [] 0 k).length := by omega
        have hxr := srch_x v hg0 hlt
        have hx0 := hxr.1
        have hx1 := hxr.2
        refine Tr.skip ?_
        refine End.nxt ?_
        refine Tr.seq ?_
        refine Tr.blk ?_
        refine Tr.seq ?_
        refine Tr.rg ?_
        refine TrL.op (ok_move rfl (fun _ => rfl)) rfl rfl ?_
        refine TrL.op (ok_move rfl (fun _ => rfl)) rfl rfl ?_
        first | refine TrL.op (ok_idxEN rfl (fun _ => rfl) rfl (fun _ => rfl) (fun _ => by omega)) rfl rfl ?_ | refine TrL.op (ok_idxE rfl (fun _ => rfl) rfl (fun _ => rfl) (fun _ => by omega)) rfl rfl ?_
        refine TrL.op (ok_ldE rfl (fun _ => rfl) rfl rfl rfl) rfl rfl ?_
        refine TrL.op (ok_assign rfl (fun _ => rfl)) rfl rfl ?_
        refine TrL.fin ?_
        refine End.nxt ?_
        refine Tr.seq ?_
        refine Tr.draw 12 mixed (by kernel_rfl) ?_
        refine RunD.op (ok_fldO rfl (fun _ => rfl)) rfl rfl ?_
        refine RunD.op (ok_ldB rfl (fun _ => rfl) rfl) rfl rfl ?_
        refine RunD.op (ok_move rfl (fun _ => rfl)) rfl rfl ?_
        first | refine RunD.op (ok_idxN rfl (fun _ => rfl) rfl (fun _ => rfl) rfl (fun _ => by omega)) rfl rfl ?_ | refine RunD.op (ok_idxP rfl (fun _ => rfl) rfl (fun _ => rfl) rfl (fun _ => by omega)) rfl rfl ?_
        refine RunD.op (ok_ldP rfl (fun _ => rfl) rfl) rfl rfl ?_
        refine RunD.op (ok_fldO rfl (fun _ => rfl)) rfl rfl ?_
        refine RunD.op (ok_ldB rfl (fun _ => rfl) rfl) rfl rfl ?_
        refine RunD.op (ok_move rfl (fun _ => rfl)) rfl rfl ?_
        first | refine RunD.op (ok_idxN rfl (fun _ => rfl) rfl (fun _ => rfl) rfl (fun _ => by omega)) rfl rfl ?_ | refine RunD.op (ok_idxP rfl (fun _ => rfl) rfl (fun _ => rfl) rfl (fun _ => by omega)) rfl rfl ?_
        refine RunD.op (ok_ldP rfl (fun _ => rfl) rfl) rfl rfl ?_
        refine RunD.op (ok_buildL [(0, 1), (1, 1)] rfl (fun hp => .cons rfl rfl rfl <| .cons rfl rfl rfl <| .nil)) rfl rfl ?_
        refine RunD.op (ok_move rfl (fun _ => rfl)) rfl rfl ?_
        refine RunD.z ?_
        refine TrL.fin ?_
        refine End.nxt ?_
        refine Tr.for1 (σ := Nat × List (Int × Int × Unit) × L3) [⟨1, true, _, _⟩, ⟨2, true, _, _⟩, ⟨6, true, _, _⟩, ⟨7, true, _, _⟩, ⟨9, true, _, _⟩, ⟨10, true, _, _⟩, ⟨11, true, _, _⟩, ⟨52, true, _, _⟩] [⟨1, _, _⟩, ⟨2, _, _⟩] (fun (j, at1, l1) => [⟨8, true, [31], kOsl 31 (srch o [] 0 k j).length⟩, ⟨53, true, [], kI (j : Int)⟩]) (fun (j, at1, l1) => [⟨26, [], cArr false 79 (eP eI (eP eI eU)) at1 o.1.length⟩, ⟨28, [], cArr false 4 eBool (seenB o.1.length (srch o [] 0 k j)) o.1.length⟩, ⟨9, [], cBlk [kI l1.1, kI l1.2.1, kI l1.2.2]⟩, ⟨31, [], cArr false 3 eI (srch o [] 0 k j) (srch o [] 0 k j).length⟩]) (fun (j, at1, l1) => j ≤ 2 ∧ PB o k j at1 l1 (srch o [] 0 k j)) (fun (j, at1, l1) => j = 2 ∧ PB o k 2 at1 l1 (srch o [] 0 k 2)) (fun (j, at1, l1) => 2 - j) ((0, at0, l0)) ⟨by omega, hpb⟩ (Ent.mk (.o rfl (by first | rfl | omega | (simp; done) | (simp; omega) | assumption) rfl <| .i rfl (by first | rfl | omega | (simp; done) | (simp; omega) | assumption) <| .k rfl rfl <| .k rfl rfl <| .k rfl rfl <| .k rfl rfl <| .k rfl rfl <| .k rfl rfl <| .k rfl rfl <| .k rfl rfl <| .nil) (.a (by first | rfl | omega | (simp; done) | (simp; omega) | assumption) (by first | rfl | omega | (simp; done) | (simp; omega) | assumption) <| .a (by first | rfl | omega | (simp; done) | (simp; omega) | assumption) (by first | rfl | omega | (simp; done) | (simp; omega) | assumption) <| .e (by rfl) rfl <| .a (by first | rfl | omega | (simp; done) | (simp; omega) | assumption) (by first | rfl | omega | (simp; done) | (simp; omega) | assumption) <| .k rfl <| .k rfl <| .nil) rfl) ?_ ?_
        · rintro ⟨j, at1, l1⟩ ⟨hj, hp1⟩
          refine Tr.norm (S' := [⟨8, true, _, _⟩, ⟨53, true, _, _⟩, ⟨1, true, _, _⟩, ⟨2, true, _, _⟩, ⟨6, true, _, _⟩, ⟨7, true, _, _⟩, ⟨9, true, _, _⟩, ⟨10, true, _, _⟩, ⟨11, true, _, _⟩, ⟨52, true, _, _⟩]) (M' := [⟨26, _, _⟩, ⟨28, _, _⟩, ⟨9, _, _⟩, ⟨31, _, _⟩, ⟨1, _, _⟩, ⟨2, _, _⟩]) rfl rfl ?_
          have hat1 := hp1.len
          have hgl := srch_len (j := j) v hg0 hlt
          have hxe := srch_at (o := o) (F := []) (s := 0) (j := j) hlt
          refine Tr.seq ?_
          refine Tr.rg ?_
          refine TrL.op (ok_lss rfl (fun _ => rfl) rfl (fun _ => rfl)) rfl rfl ?_
          refine TrL.fin ?_
          refine End.nxt ?_
          refine Tr.seq ?_
          refine Tr.cnd rfl ?_ ?_
          · intro h14
            replace h14 := of_decide_eq_true h14
            have hy := srch_y v hg0 hlt (j := j) (by omega)
            have hyY : 0 ≤ nth [nth o.1 (nth (bfsTo o [] 0 k) k).toNat, nth o.2 (nth (bfsTo o [] 0 k) k).toNat] j ∧ nth [nth o.1 (nth (bfsTo o [] 0 k) k).toNat, nth o.2 (nth (bfsTo o [] 0 k) k).toNat] j < o.1.length := hy
            have hnn := nth_seenB' (S := srch o [] 0 k j) hy.1 hy.2
            have hnn2 : nth (seenB o.1.length (srch o [] 0 k j)) (nth [nth o.1 (nth (bfsTo o [] 0 k) k).toNat, nth o.2 (nth (bfsTo o [] 0 k) k).toNat] j).toNat = _ := hnn
            have hyy : edg o (nth (srch o [] 0 k j) k) j = nth [nth o.1 (nth (bfsTo o [] 0 k) k).toNat, nth o.2 (nth (bfsTo o [] 0 k) k).toNat] j := by (rw [hxe.1, ← edg_stp (by omega)]; rfl)
            have hpx := hp1.pb v (nth_mem hxe.2)
            rw [hxe.1] at hpx
            unfold pAt at hpx
            simp only at hpx
            have huni : uni (pAt at1 (nth (srch o [] 0 k j) k)) j = ((if j = 0 then (if j = 0 then (nth at1 (nth (bfsTo o [] 0 k) k).toNat).1 else (nth at1 (nth (bfsTo o [] 0 k) k).toNat).2.1) + 1 else (nth at1 (nth (bfsTo o [] 0 k) k).toNat).1), (if j = 0 then (nth at1 (nth (bfsTo o [] 0 k) k).toNat).2.1 else (if j = 0 then (nth at1 (nth (bfsTo o [] 0 k) k).toNat).1 else (nth at1 (nth (bfsTo o [] 0 k) k).toNat).2.1) + 1)) := by rw [hxe.1]; exact to_uni
            refine Tr.skip ?_
            refine End.nxt ?_
            refine Tr.seq ?_
            refine Tr.blk ?_
            refine Tr.seq ?_
            refine Tr.rg ?_
            refine TrL.op (ok_move rfl (fun _ => rfl)) rfl rfl ?_
            refine TrL.op (ok_idxA eI rfl (fun _ => rfl) rfl (fun _ => rfl) rfl rfl (fun _ => ⟨by omega, by simp; omega⟩)) rfl rfl ?_
            refine TrL.op (ok_assign rfl (fun _ => rfl)) rfl rfl ?_
            refine TrL.op (ok_assign rfl (fun _ => rfl)) rfl rfl ?_
            refine TrL.fin ?_
            refine End.nxt ?_
            refine Tr.seq ?_
            refine Tr.rg ?_
            refine TrL.op (ok_move rfl (fun _ => rfl)) rfl rfl ?_
            refine TrL.op (ok_move rfl (fun _ => rfl)) rfl rfl ?_
            first | refine TrL.op (ok_idxEN rfl (fun _ => rfl) rfl (fun _ => rfl) (fun _ => by omega)) rfl rfl ?_ | refine TrL.op (ok_idxE rfl (fun _ => rfl) rfl (fun _ => rfl) (fun _ => by omega)) rfl rfl ?_
            refine TrL.op (ok_ldEA rfl (fun _ => rfl) rfl rfl rfl rfl) rfl rfl ?_
            refine TrL.new (ok_alloc 14) rfl rfl rfl rfl ?_
            refine TrL.stB rfl rfl rfl rfl ?_
            refine TrL.fin ?_
            refine End.nxt ?_
            refine Tr.seq ?_
            refine Tr.rg ?_
            refine TrL.op (ok_move rfl (fun _ => rfl)) rfl rfl ?_
            refine TrL.op (ok_idxArrO rfl (fun _ => rfl) rfl (fun _ => rfl) (fun _ => by omega)) rfl rfl ?_
            refine TrL.op (ok_ldBV (j := j) (by omega) rfl (fun _ => rfl)) rfl rfl ?_
            refine TrL.op (ok_add rfl (fun _ => rfl) rfl (fun _ => rfl) (fun _ => by split <;> omega)) rfl rfl ?_
            refine TrL.op (ok_idxArrO rfl (fun _ => rfl) rfl (fun _ => rfl) (fun _ => by omega)) rfl rfl ?_
            refine TrL.stBV (j := j) (by omega) rfl rfl rfl ?_
            refine TrL.fin ?_
            refine End.nxt ?_
            refine Tr.seq ?_
            refine Tr.seq ?_
            refine Tr.rg ?_
            refine TrL.op (ok_move rfl (fun _ => rfl)) rfl rfl ?_
            refine TrL.op (ok_move rfl (fun _ => rfl)) rfl rfl ?_
            first | refine TrL.op (ok_idxEN rfl (fun _ => rfl) rfl (fun _ => rfl) (fun _ => by omega)) rfl rfl ?_ | refine TrL.op (ok_idxE rfl (fun _ => rfl) rfl (fun _ => rfl) (fun _ => by omega)) rfl rfl ?_
            refine TrL.op (ok_ldE rfl (fun _ => rfl) rfl rfl rfl) rfl rfl ?_
            refine TrL.fin ?_
            refine End.nxt ?_
            refine Tr.cnd rfl ?_ ?_
            · intro h18
              rw [hnn2] at h18
              have hold := of_decide_eq_true h18
              have hyL : edg o (nth (srch o [] 0 k j) k) j ∈ (srch o [] 0 k j) := by rw [hyy]; exact hold
              have hb := hp1.db v (nth_mem hxe.2) hyL
              have hdx : (if j = 0 then (if j = 0 then (nth at1 (nth (bfsTo o [] 0 k) k).toNat).1 else (nth at1 (nth (bfsTo o [] 0 k) k).toNat).2.1) + 1 else (nth at1 (nth (bfsTo o [] 0 k) k).toNat).1) - (nth at1 (nth [nth o.1 (nth (bfsTo o [] 0 k) k).toNat, nth o.2 (nth (bfsTo o [] 0 k) k).toNat] j).toNat).1 = (dfE o (pAt at1) (nth (srch o [] 0 k j) k) j).1 := by unfold dfE; rw [huni, hyy]; rfl
              have hdy : (if j = 0 then (nth at1 (nth (bfsTo o [] 0 k) k).toNat).2.1 else (if j = 0 then (nth at1 (nth (bfsTo o [] 0 k) k).toNat).1 else (nth at1 (nth (bfsTo o [] 0 k) k).toNat).2.1) + 1) - (nth at1 (nth [nth o.1 (nth (bfsTo o [] 0 k) k).toNat, nth o.2 (nth (bfsTo o [] 0 k) k).toNat] j).toNat).2.1 = (dfE o (pAt at1) (nth (srch o [] 0 k j) k) j).2 := by unfold dfE; rw [huni, hyy]; rfl
              have ba := hp1.bd.a
              have bn := hp1.nf.a
              have hput := ct_put l1 ((if j = 0 then (if j = 0 then (nth at1 (nth (bfsTo o [] 0 k) k).toNat).1 else (nth at1 (nth (bfsTo o [] 0 k) k).toNat).2.1) + 1 else (nth at1 (nth (bfsTo o [] 0 k) k).toNat).1) - (nth at1 (nth [nth o.1 (nth (bfsTo o [] 0 k) k).toNat, nth o.2 (nth (bfsTo o [] 0 k) k).toNat] j).toNat).1) ((if j = 0 then (nth at1 (nth (bfsTo o [] 0 k) k).toNat).2.1 else (if j = 0 then (nth at1 (nth (bfsTo o [] 0 k) k).toNat).1 else (nth at1 (nth (bfsTo o [] 0 k) k).toNat).2.1) + 1) - (nth at1 (nth [nth o.1 (nth (bfsTo o [] 0 k) k).toNat, nth o.2 (nth (bfsTo o [] 0 k) k).toNat] j).toNat).2.1) _ 130 hp1.nf (by rw [hdx, hdy]; exact Bd.start hp1.nf hp1.bd hb.1 hb.2) (by omega) (by omega) (by omega)
              refine Tr.seq ?_
              refine Tr.draw 16 mixed (by kernel_rfl) ?_
              refine RunD.op (ok_idxArrO rfl (fun _ => rfl) rfl (fun _ => rfl) (fun _ => by decide)) rfl rfl ?_
              refine RunD.op (ok_ldB rfl (fun _ => rfl) rfl) rfl rfl ?_
              refine RunD.op (ok_move rfl (fun _ => rfl)) rfl rfl ?_
              refine RunD.op (ok_move rfl (fun _ => rfl)) rfl rfl ?_
              first | refine RunD.op (ok_idxEN rfl (fun _ => rfl) rfl (fun _ => rfl) (fun _ => by omega)) rfl rfl ?_ | refine RunD.op (ok_idxE rfl (fun _ => rfl) rfl (fun _ => rfl) (fun _ => by omega)) rfl rfl ?_
              refine RunD.op (ok_idxElA rfl (fun _ => rfl) rfl (fun _ => rfl) (fun _ => by decide)) rfl rfl ?_
              refine RunD.op (ok_ldElI cellI_a rfl (fun _ => rfl) rfl rfl) rfl rfl ?_
              refine RunD.op (ok_sub rfl (fun _ => rfl) rfl (fun _ => rfl) (fun _ => by rw [hdx]; omega)) rfl rfl ?_
              refine RunD.op (ok_idxArrO rfl (fun _ => rfl) rfl (fun _ => rfl) (fun _ => by decide)) rfl rfl ?_
              refine RunD.op (ok_ldB rfl (fun _ => rfl) rfl) rfl rfl ?_
              refine RunD.op (ok_move rfl (fun _ => rfl)) rfl rfl ?_
              refine RunD.op (ok_move rfl (fun _ => rfl)) rfl rfl ?_
              first | refine RunD.op (ok_idxEN rfl (fun _ => rfl) rfl (fun _ => rfl) (fun _ => by omega)) rfl rfl ?_ | refine RunD.op (ok_idxE rfl (fun _ => rfl) rfl (fun _ => rfl) (fun _ => by omega)) rfl rfl ?_
              refine RunD.op (ok_idxElA rfl (fun _ => rfl) rfl (fun _ => rfl) (fun _ => by decide)) rfl rfl ?_
              refine RunD.op (ok_ldElI cellI_b rfl (fun _ => rfl) rfl rfl) rfl rfl ?_
              refine RunD.op (ok_sub rfl (fun _ => rfl) rfl (fun _ => rfl) (fun _ => by rw [hdy]; omega)) rfl rfl ?_
              refine RunD.z ?_
              refine TrL.mutP (hput) rfl (.a rfl (fun _ => rfl) <| .a rfl (fun _ => rfl) <| .nil) (fun _ _ _ _ h => cBlk_go h) (fun h => cBlk_go h) rfl ?_
              refine TrL.fin ?_
              refine End.nxt ?_
              refine Tr.exit ?_
              refine Exs.thn ?_
              refine Exs.here ?_
              refine End.nxt ?_
              refine Tr.rg ?_
              refine TrL.op (ok_add rfl (fun _ => rfl) rfl (fun _ => rfl) (fun _ => by omega)) rfl rfl ?_
              refine TrL.op (ok_move rfl (fun _ => rfl)) rfl rfl ?_
              refine TrL.fin ?_
              exact End.lp ((j + 1, at1, latA l1 (dfE o (pAt at1) (nth (srch o [] 0 k j) k) j))) ⟨by omega, by rw [srch_in (by omega) hold]; exact hp1.old v hxe.2 (by omega) hyL⟩ (show 2 - (j + 1) < 2 - j by omega) (Ent.mk (.o rfl (by rw [srch_in (by omega) hold]) rfl <| .i rfl (by first | rfl | omega | (simp; done) | (simp; omega) | assumption) <| .k rfl rfl <| .k rfl rfl <| .k rfl rfl <| .k rfl rfl <| .k rfl rfl <| .k rfl rfl <| .k rfl rfl <| .k rfl rfl <| .nil) (.a (by first | rfl | omega | (simp; done) | (simp; omega) | assumption) (by first | rfl | omega | (simp; done) | (simp; omega) | assumption) <| .a (by rw [srch_in (by omega) hold]) (by first | rfl | omega | (simp; done) | (simp; omega) | assumption) <| .e (by rw [hdx, hdy]) rfl <| .a (by rw [srch_in (by omega) hold]) (by rw [srch_in (by omega) hold]) <| .k rfl <| .k rfl <| .nil) rfl)
            · intro h18
              rw [hnn2] at h18
              have hnew := of_decide_eq_false h18
              have hyL : edg o (nth (srch o [] 0 k j) k) j ∉ (srch o [] 0 k j) := by rw [hyy]; exact hnew
              have hyE : Sq o.1.length (edg o (nth (srch o [] 0 k j) k) j) := by rw [hyy]; exact hy
              refine Tr.skip ?_
              refine End.nxt ?_
              refine Tr.seq ?_
              refine Tr.drawS 6 28 mixed (by kernel_rfl) ?_
              refine RunS.opA (ok_move rfl (fun _ => rfl)) (by kernel_rfl) rfl rfl ?_
              refine RunS.opA (ok_move rfl (fun _ => rfl)) (by kernel_rfl) rfl rfl ?_
              refine RunS.op (ok_move rfl (fun _ => rfl)) rfl rfl ?_
              refine RunS.op (ok_move rfl (fun _ => rfl)) rfl rfl ?_
              refine RunS.op (ok_ldBS rfl (fun _ => rfl)) rfl rfl ?_
              first | refine RunS.opA (ok_idxEN rfl (fun _ => rfl) rfl (fun _ => rfl) (fun _ => by omega)) (by kernel_rfl) rfl rfl ?_ | refine RunS.opA (ok_idxE rfl (fun _ => rfl) rfl (fun _ => rfl) (fun _ => by omega)) (by kernel_rfl) rfl rfl ?_
              refine RunS.z (st_E rfl rfl rfl rfl rfl) rfl rfl rfl ?_
              first | refine TrL.op (ok_idxEN rfl (fun _ => rfl) rfl (fun _ => rfl) (fun _ => by omega)) rfl rfl ?_ | refine TrL.op (ok_idxE rfl (fun _ => rfl) rfl (fun _ => rfl) (fun _ => by omega)) rfl rfl ?_
              refine TrL.stE rfl rfl rfl rfl rfl ?_
              refine TrL.fin ?_
              refine End.nxt ?_
              refine Tr.rg ?_
              refine TrL.op (ok_move rfl (fun _ => rfl)) rfl rfl ?_
              refine TrL.op (ok_move rfl (fun _ => rfl)) rfl rfl ?_
              refine TrL.new (ok_bsl eI 96 (fun hp => .cons rfl <| .nil) rfl rfl rfl rfl) rfl rfl rfl rfl ?_
              refine TrL.app rfl rfl rfl rfl rfl rfl rfl rfl (by first | omega | (simp only [List.length_cons, List.length_nil]; omega)) (by first | omega | (simp only [List.length_cons, List.length_nil]; omega)) ?_
              refine TrL.norm (S' := ⟨_, _, _, _⟩ :: ⟨_, _, _, _⟩ :: ⟨_, _, _, _⟩ :: ⟨_, _, _, _⟩ :: ⟨_, _, _, _⟩ :: ⟨_, _, _, _⟩ :: ⟨_, _, _, _⟩ :: ⟨_, _, _, _⟩ :: ⟨_, _, _, _⟩ :: ⟨_, _, _, _⟩ :: ⟨_, _, _, _⟩ :: ⟨_, _, _, _⟩ :: ⟨_, _, _, _⟩ :: ⟨_, _, _, _⟩ :: ⟨_, _, _, _⟩ :: ⟨_, _, _, _⟩ :: ⟨_, _, _, _⟩ :: ⟨_, _, _, _⟩ :: ⟨_, _, _, _⟩ :: ⟨_, _, _, _⟩ :: ⟨_, _, _, _⟩ :: ⟨_, _, _, _⟩ :: ⟨_, _, _, _⟩ :: ⟨_, _, _, _⟩ :: ⟨_, _, _, _⟩ :: ⟨_, _, _, _⟩ :: ⟨_, _, _, _⟩ :: ⟨_, _, _, _⟩ :: ⟨_, _, _, _⟩ :: ⟨_, _, _, _⟩ :: ⟨_, _, _, _⟩ :: ⟨_, _, _, _⟩ :: ⟨_, _, _, _⟩ :: ⟨_, _, _, _⟩ :: ⟨_, _, _, _⟩ :: ⟨_, _, _, _⟩ :: ⟨_, _, _, _⟩ :: ⟨_, _, _, _⟩ :: ⟨_, _, _, _⟩ :: ⟨_, _, _, _⟩ :: []) rfl rfl ?_
              refine TrL.op (ok_assign rfl (fun _ => rfl)) rfl rfl ?_
              refine TrL.fin ?_
              refine End.blk ?_
              refine End.nxt ?_
              refine Tr.rg ?_
              refine TrL.op (ok_add rfl (fun _ => rfl) rfl (fun _ => rfl) (fun _ => by omega)) rfl rfl ?_
              refine TrL.op (ok_move rfl (fun _ => rfl)) rfl rfl ?_
              refine TrL.fin ?_
              exact End.lp ((j + 1, at1.set (edg o (nth (srch o [] 0 k j) k) j).toNat ((uni (pAt at1 (nth (srch o [] 0 k j) k)) j).1, (uni (pAt at1 (nth (srch o [] 0 k j) k)) j).2, ()), l1)) ⟨by omega, by rw [srch_new (by omega) hnew, edg_stp (by omega), ← hxe.1]; exact hp1.new hxe.2 (by omega) hyE hyL (by rfl)⟩ (show 2 - (j + 1) < 2 - j by omega) (Ent.mk (.o rfl (by rw [srch_new (by omega) hnew, List.length_append]; rfl) rfl <| .i rfl (by first | rfl | omega | (simp; done) | (simp; omega) | assumption) <| .k rfl rfl <| .k rfl rfl <| .k rfl rfl <| .k rfl rfl <| .k rfl rfl <| .k rfl rfl <| .k rfl rfl <| .k rfl rfl <| .nil) (.a (by rw [huni, hyy]) (by first | rfl | omega | (simp; done) | (simp; omega) | assumption) <| .a (by rw [srch_new (by omega) hnew]; exact seenB_set (x := nth (stp o (nth (bfsTo o [] 0 k) k)) j) hy.1) (by first | rfl | omega | (simp; done) | (simp; omega) | assumption) <| .e (by rfl) rfl <| .a (by rw [srch_new (by omega) hnew]; rfl) (by rw [srch_new (by omega) hnew, List.length_append]; rfl) <| .k rfl <| .k rfl <| .nil) rfl)
          · intro h14
            replace h14 := Int.not_lt.1 (of_decide_eq_false h14)
            refine Tr.exit ?_
            refine Exs.thn ?_
            refine Exs.thn ?_
            refine Exs.here ?_
            exact End.cut ((j, at1, l1)) (by (obtain rfl : j = 2 := by omega); exact ⟨rfl, hp1⟩) (Ent.mk (.o rfl (by first | rfl | omega | (simp; done) | (simp; omega) | assumption) rfl <| .i rfl (by first | rfl | omega | (simp; done) | (simp; omega) | assumption) <| .k rfl rfl <| .k rfl rfl <| .k rfl rfl <| .k rfl rfl <| .k rfl rfl <| .k rfl rfl <| .k rfl rfl <| .k rfl rfl <| .nil) (.a (by first | rfl | omega | (simp; done) | (simp; omega) | assumption) (by first | rfl | omega | (simp; done) | (simp; omega) | assumption) <| .a (by first | rfl | omega | (simp; done) | (simp; omega) | assumption) (by first | rfl | omega | (simp; done) | (simp; omega) | assumption) <| .e (by rfl) rfl <| .a (by first | rfl | omega | (simp; done) | (simp; omega) | assumption) (by first | rfl | omega | (simp; done) | (simp; omega) | assumption) <| .k rfl <| .k rfl <| .nil) rfl)
        · rintro ⟨j, at1, l1⟩ ⟨hj2, hp1⟩
          refine End.norm (S' := [⟨8, true, _, _⟩, ⟨53, true, _, _⟩, ⟨1, true, _, _⟩, ⟨2, true, _, _⟩, ⟨6, true, _, _⟩, ⟨7, true, _, _⟩, ⟨9, true, _, _⟩, ⟨10, true, _, _⟩, ⟨11, true, _, _⟩, ⟨52, true, _, _⟩]) (M' := [⟨26, _, _⟩, ⟨28, _, _⟩, ⟨9, _, _⟩, ⟨31, _, _⟩, ⟨1, _, _⟩, ⟨2, _, _⟩]) rfl rfl ?_
          subst hj2
          refine End.blk ?_
          refine End.nxt ?_
          refine Tr.rg ?_
          refine TrL.op (ok_move rfl (fun _ => rfl)) rfl rfl ?_
          refine TrL.op (ok_add rfl (fun _ => rfl) rfl (fun _ => rfl) (fun _ => by omega)) rfl rfl ?_
          refine TrL.op (ok_assign rfl (fun _ => rfl)) rfl rfl ?_
          refine TrL.fin ?_
          exact End.lp ((k + 1, at1, l1)) ⟨by omega, by rw [← srch_two hlt]; exact hp1.two⟩ (show o.1.length - (k + 1) < o.1.length - k by omega) (Ent.mk (.o rfl (by rw [srch_two hlt]) rfl <| .i rfl (by first | rfl | omega | (simp; done) | (simp; omega) | assumption) <| .k rfl rfl <| .k rfl rfl <| .k rfl rfl <| .k rfl rfl <| .k rfl rfl <| .nil) (.a (by first | rfl | omega | (simp; done) | (simp; omega) | assumption) (by first | rfl | omega | (simp; done) | (simp; omega) | assumption) <| .a (by rw [srch_two hlt]) (by first | rfl | omega | (simp; done) | (simp; omega) | assumption) <| .e (by rfl) rfl <| .a (by rw [srch_two hlt]) (by rw [srch_two hlt]) <| .k rfl <| .k rfl <| .nil) rfl)
      · intro h10
        replace h10 := Int.not_lt.1 (of_decide_eq_false h10)
        refine Tr.exit ?_
        refine Exs.thn ?_
        refine Exs.thn ?_
        refine Exs.here ?_
        exact End.cut ((k, at0, l0)) (hpb.fin v cn (bfs_of v hg0 (by omega)) (by omega)) (Ent.mk (.o rfl (by first | rfl | omega | (simp; done) | (simp; omega) | assumption) rfl <| .i rfl (by first | rfl | omega | (simp; done) | (simp; omega) | assumption) <| .k rfl rfl <| .k rfl rfl <| .k rfl rfl <| .k rfl rfl <| .k rfl rfl <| .nil) (.a (by first | rfl | omega | (simp; done) | (simp; omega) | assumption) (by first | rfl | omega | (simp; done) | (simp; omega) | assumption) <| .a (by first | rfl | omega | (simp; done) | (simp; omega) | assumption) (by first | rfl | omega | (simp; done) | (simp; omega) | assumption) <| .e (by rfl) rfl <| .a (by first | rfl | omega | (simp; done) | (simp; omega) | assumption) (by first | rfl | omega | (simp; done) | (simp; omega) | assumption) <| .k rfl <| .k rfl <| .nil) rfl)
    · rintro ⟨k, at0, l0⟩ hE0
      refine End.norm (S' := [⟨8, true, _, _⟩, ⟨10, true, _, _⟩, ⟨1, true, _, _⟩, ⟨2, true, _, _⟩, ⟨6, true, _, _⟩, ⟨7, true, _, _⟩, ⟨9, true, _, _⟩]) (M' := [⟨26, _, _⟩, ⟨28, _, _⟩, ⟨9, _, _⟩, ⟨31, _, _⟩, ⟨1, _, _⟩, ⟨2, _, _⟩]) rfl rfl ?_
      refine End.nxt ?_
      refine Tr.seq ?_
      refine Tr.rg ?_
      refine TrL.op (ok_ldBS rfl (fun _ => rfl)) rfl rfl ?_
      refine TrL.stB rfl rfl rfl rfl ?_
      refine TrL.op (ok_assign rfl (fun _ => rfl)) rfl rfl ?_
      refine TrL.fin ?_
      refine End.nxt ?_
      refine Tr.ret ?_
      exact Rts.resC (fn := Try.f20) (ts := [3]) rfl rfl rfl (aggRd rfl (by rw [if_pos h2, ← hE0])) (.i rfl h2.symm <| .nil)

end Go.Fl

/- Structs of integers that are equal. No program in sight. -/
namespace Go.Fl
open Go Go.RowKit
/-- A value that is a struct of integers, all of them known. -/
class KInts (k : Know) (xs : outParam (List Int)) : Prop where
  imp : ∀ {g : Gh} {v : Value}, k g v → v = .agg (xs.map (Value.int .i64)).toArray
instance {a b c : Int} : KInts (kAgg [kI a, kI b, kI c]) [a, b, c] := ⟨fun {g v} h => by
  obtain ⟨cs, rfl, h2⟩ := h
  match cs, h2 with
  | [_, _, _], ⟨rfl, rfl, rfl, _⟩ => rfl⟩
section
variable {P : Program} {c : Ctx} {S : Slots} {M : Conts} {p : Bool} {d : Option Tmp} {ty : TypeId} {pos : String} {af : Array Edge} {gd : Option (Nat × Bool)} {x y : Operand} {b b' : Bool}
end
end Go.Fl

/- Contracts: the law of strata. -/
namespace Go.Fl
open Go Go.Proofs

instance : TyInts Try.prog 46 3 := TyInts.mk' (by kernel_rfl) (by kernel_rfl) (by kernel_rfl) (by kernel_rfl)

instance {l : L3} : KInts (kRd eLat l) [l.1, l.2.1, l.2.2] := ⟨fun {g v} h => by
  obtain ⟨cs, h1, rfl⟩ := h
  obtain ⟨_, _, rfl, rfl, _, _, rfl, rfl, _, _, rfl, rfl, rfl⟩ := h1
  rfl⟩

end Go.Fl

/- Contracts: automorphisms, quotients. -/
namespace Go.Fl
open Go Go.Proofs

instance : NB 121 122 := ⟨rfl⟩

noncomputable def lstTo (o : Ori) (k : Nat) : List Int := fillTo 0 (fun i : Nat => mnO o i) o.1.length k
noncomputable def clsF (o : Ori) (y : Nat) : Int := atL (frs o o.1.length) (mnO o y)

end Go.Fl

/- Contracts: the law of automorphisms. -/
namespace Go.Fl
open Go Go.Proofs

end Go.Fl

/- Parts of rows that are immutable; functions that return a part of their argument; calls that take one of the caller's own rows for good. No program in sight. -/
namespace Go.Fl
open Go Go.RowKit
/-! ### 1. Parts of rows -/
theorem rowAt.take {α : Type} {e : Enc α} {J : JV} {b o n : Nat} {xs : List α} (h : rowAt e J b o xs) : rowAt e J b o (xs.take n) := fun i x hx => by
  rw [List.getElem?_take] at hx
  split at hx
  · exact h i x hx
  · cases hx
theorem rowAt.drop {α : Type} {e : Enc α} {J : JV} {b o n : Nat} {xs : List α} (h : rowAt e J b o xs) : rowAt e J b (o + n * e.n) (xs.drop n) := fun i x hx => by
  rw [List.getElem?_drop] at hx
  obtain ⟨ds, h1, h2⟩ := h _ x hx
  refine ⟨ds, h1, fun j v hj => ?_⟩
  have := h2 j v hj
  rwa [show o + (n + i) * e.n + j = o + n * e.n + i * e.n + j by rw [Nat.add_mul]; omega] at this
section
variable {P : Program} {c : Ctx} {S : Slots} {M : Conts} {p : Bool} {d : Option Tmp} {ty : TypeId} {pos : String} {af : Array Edge} {gd : Option (Nat × Bool)} {x y z : Operand} {b b' b'' : Bool}
end
end Go.Fl

/- Functions that return a part of their argument; calls that change a lent row and return a part of it; queues that become immutable. No program in sight. -/
namespace Go.Fl
open Go Go.RowKit
instance {t n o l : Nat} : OneC (kOsq t n o l) := ⟨fun ⟨_, _, _, _, _, _, h⟩ => by subst h; rfl⟩
/-! ### 1. Slices with their address -/
/-- A slice with its address and its room, and what it reads in immutable memory. -/
def kSlv {α : Type} (e : Enc α) (ad : Option Addr) (cap : Nat) (xs : List α) : Know := fun g v => v = .slice ad xs.length cap ∧ kRd (eL e) xs g v
instance {α : Type} (e : Enc α) (ad : Option Addr) (cap : Nat) (xs : List α) : KDep (kSlv e ad cap xs) [] := ⟨fun hJ hd h => ⟨h.1, (inferInstance : KDep (kRd (eL e) xs) []).dep hJ hd h.2⟩⟩
theorem kSlv.cast {α : Type} {e : Enc α} {ad : Option Addr} {cap : Nat} {xs ys : List α} (h : xs = ys) {g : Gh} {v : Value} (k : kSlv e ad cap xs g v) : kSlv e ad cap ys g v := h ▸ k
section
variable {P : Program} {c : Ctx} {S : Slots} {M : Conts} {p : Bool} {d : Option Tmp} {ty : TypeId} {pos : String} {af : Array Edge} {gd : Option (Nat × Bool)} {x y z : Operand} {b b' b'' : Bool}
end
/-! ### 2. A queue becomes immutable -/
def allOsq (S : Slots) (u n off len : Nat) : List Nat → Prop
  | [] => True
  | s :: r => look S s = some (true, kOsq u n off len) ∧ allOsq S u n off len r
section
variable {P : Program} {n : Nat} {w0 : World} {J0 : JV} {S : Slots} {M M' : Conts} {Q : Exit → Act → World → Prop} {ops : Array Oper} {rest : List Oper}
end
/-! ### 3. A lent row that is changed, and a part of it that comes back -/
/-- A slice of the call's own row t, of which the block is known by name. -/
def kOslAt (t len bl cap : Nat) : Know := fun g v => g.M t = some (.blk bl cap) ∧ v = .slice (some ⟨bl, 0, none⟩) len cap
instance (t len bl cap : Nat) : KDep (kOslAt t len bl cap) [t] := ⟨fun _ hd ⟨h1, h2⟩ => ⟨(hd t (by simp)).trans h1, h2⟩⟩
instance (t len bl cap : Nat) : KHas (kOslAt t len bl cap) t := ⟨fun ⟨h1, _⟩ => by rw [h1]; simp⟩
def RetBr (w : World) (J : JV) (b cap : Nat) (res : Know) (ct' : Cont) : Ending → World → Prop := fun e w' => ∃ r J', e = .returned r ∧ But (.blk b cap) w w' ∧ J.le J' ∧ (∀ b' o, b' < w.heap.size → J' b' o = J b' o) ∧ Im J' w' ∧ res (g1 J' b cap) r ∧ ct' (g1 J' b cap) (.blk b cap) w'.heap[b]?
/-- f changes the row that is its first argument; what it returns may be a part of it. -/
def CtR (P : Program) (f : FuncId) (len : Nat) (ks : List Know) (ct ct' : Cont) (res : Know) : Prop :=
  ∀ w J b cap, Im J w → (∀ o, J b o = none) → b < w.heap.size → ct (g1 J b cap) (.blk b cap) w.heap[b]? → ∀ v vs, v = .slice (some ⟨b, 0, none⟩) len cap → allK ⟨J, noM⟩ ks vs → Calls P f (v :: vs).toArray w (RetBr w J b cap res ct')
section
variable {P : Program} {c : Ctx} {S : Slots} {M : Conts} {p : Bool} {d : Option Tmp} {ty : TypeId} {pos : String} {af : Array Edge} {gd : Option (Nat × Bool)} {x : Operand} {b : Bool}
end
theorem CtR.mk {P : Program} {f : FuncId} {fn : Func} {code : Code} {args : List Know} {res : Know} {ct ct' : Cont} {n len : Nat} (hf : P.funcs[f]? = some fn) (hb : fn.body = some code) (hn : fn.ntmps = n) (hl : Nat.ble (args.length + 1) n = true) [hj : AllJ args] [hcd : CDep ct []]
    (h : ∀ w J b cap, Tr P ⟨w, J, [b], n⟩ (⟨0, true, [0], kOslAt 0 len b cap⟩ :: params 1 args) [⟨0, [], ct⟩] code (bodyPost P fn (RetBr w J b cap res ct'))) : CtR P f len args ct ct' res := by
  intro w J b cap him hJ hlt hct v vs hv hvs
  have hlen := allK_len hvs
  have hle : args.length + 1 ≤ n := Nat.le_of_ble_eq_true hl
  have hM : ∀ t bk, (g1 J b cap).M t = some bk → t = 0 ∧ bk = .blk b cap := fun t bk ht => by
    simp only [g1] at ht
    split at ht
    · rename_i e; cases ht; exact ⟨e, rfl⟩
    · cases ht
  refine calls_of_wp hf hb (h w J b cap _ (g1 J b cap) w ⟨⟨⟨rfl, rfl, rfl, Nat.le_refl _, fun _ _ _ => rfl, Nat.le_refl _⟩, JV.le_refl _, fun _ _ _ => rfl, him, fun t b' cap' ht => ?_, fun t t' b1 c1 c2 h1 h2 => ?_⟩, ?_, ?_, ?_, by simp, ?_, ?_, rfl, ?_⟩)
  · obtain ⟨_, e⟩ := hM _ _ ht
    cases e
    exact ⟨.inr (by simp), hlt, hJ⟩
  · rw [(hM _ _ h1).1, (hM _ _ h2).1]
  · intro t bb k hk
    simp only [look] at hk
    cases hb0 : Nat.beq 0 t with
    | true =>
      rw [hb0] at hk
      simp only [cond_true, Option.some.injEq, Prod.mk.injEq] at hk
      obtain ⟨rfl, rfl⟩ := hk
      have := Nat.eq_of_beq_eq_true hb0
      subst this
      refine ⟨fun _ => ?_, fun hf => (by cases hf)⟩
      have : ((v :: vs).toArray ++ Array.replicate (fn.ntmps - (v :: vs).toArray.size) undef).getD 0 undef = v := by
        rw [Array.getD_eq_getD_getElem?, Array.getElem?_append_left (by simp)]
        simp
      rw [this]
      exact ⟨by simp [g1], hv⟩
    | false =>
      rw [hb0] at hk
      obtain ⟨h1, rfl, u, hu, hku⟩ := params_hold (g := g1 J b cap) (allK_sameJ (g := ⟨J, noM⟩) (g' := g1 J b cap) (JV.le_refl _) hj.all hvs) hk
      refine ⟨fun _ => ?_, fun hf => (by cases hf)⟩
      have hu' : (v :: vs)[t]? = some u := by
        rw [show t = (t - 1) + 1 by omega]; simpa using hu
      have ht : t < (v :: vs).length := (List.getElem?_eq_some_iff.1 hu').1
      have : ((v :: vs).toArray ++ Array.replicate (fn.ntmps - (v :: vs).toArray.size) undef).getD t undef = u := by
        rw [Array.getD_eq_getD_getElem?, Array.getElem?_append_left (by simpa using ht)]
        simp only [List.getElem?_toArray]
        rw [hu']; rfl
      rw [this]; exact hku
  · intro e he
    simp only [List.mem_singleton] at he
    subst he
    exact ⟨_, by simp [g1], hct⟩
  · intro t ht
    cases hm : (g1 J b cap).M t with
    | none => exact absurd hm ht
    | some bk => simp [(hM _ _ hm).1]
  · intro e he
    rcases List.mem_cons.1 he with rfl | he
    · exact ⟨inferInstance, fun t ht => by simpa using ht⟩
    · obtain ⟨h1, h2⟩ := params_dep hj.all he
      exact ⟨h1, fun t ht => by rw [h2] at ht; cases ht⟩
  · intro e he
    simp only [List.mem_singleton] at he
    subst he
    exact ⟨hcd, fun t ht => by cases ht⟩
  · simp only [Array.size_append, List.size_toArray, Array.size_replicate, List.length_cons]; omega
section
variable {P : Program} {n : Nat} {w0 : World} {J0 : JV} {S : Slots} {M : Conts} {fn : Func} {b cap s t len : Nat} {ct ct' : Cont} {dep : List Nat} {k res : Know}
end
section
variable {P : Program} {c : Ctx} {ops : Array Oper} {S : Slots} {M : Conts} {rest : List Oper} {Q : Exit → Act → World → Prop}
variable {d : Nat} {ty : TypeId} {pos : String} {af : Array Edge}
end
/-! ### 4. A struct that comes back with a row of one's own -/
section
variable {P : Program} {n0 : Nat} {w0 : World} {J0 : JV} {S : Slots} {M : Conts} {fn : Func}
end
end Go.Fl

/- Closures: values that hold pointers to things of the call's own; their calls are gone through in place, with the caller's own things. No program in sight. -/
namespace Go.Fl
open Go Go.RowKit
/-! ### 1. A closure -/
def kClo (f : FuncId) (ks : List Know) : Know := fun g v => ∃ vs : List Value, v = .func (.func f) #[] vs.toArray ∧ allK g ks vs
instance {f : FuncId} {ks : List Know} {ds : List Nat} [h : KsDep ks ds] : KDep (kClo f ks) ds := ⟨fun hl hd ⟨vs, h1, h2⟩ => ⟨vs, h1, h.dep hl hd h2⟩⟩
instance {f : FuncId} {ks : List Know} : OneC (kClo f ks) := ⟨fun ⟨_, h, _⟩ => by subst h; rfl⟩
/-- What is known of operands, as the call's own ghost has it. -/
inductive ArgsG (S : Slots) (p : Bool) : List Operand → List Know → Prop
  | nil : ArgsG S p [] []
  | cons {x : Operand} {xs : List Operand} {k : Know} {ks : List Know} {b : Bool} (hx : opK S x = some (b, k)) (hb : p = true → b = true) (r : ArgsG S p xs ks) : ArgsG S p (x :: xs) (k :: ks)
theorem ArgsG.eval {S : Slots} {p : Bool} {g : Gh} {ρ : Operand → Value} (hp : p = true) : ∀ {xs : List Operand} {ks : List Know}, ArgsG S p xs ks → (∀ x ∈ xs, ∀ b k, opK S x = some (b, k) → b = true → k g (ρ x)) → allK g ks (xs.map ρ)
  | [], [], _, _ => trivial
  | x :: _, _ :: _, .cons hx hb r, h => ⟨h x List.mem_cons_self _ _ hx (hb hp), ArgsG.eval hp r fun y hy => h y (List.mem_cons_of_mem _ hy)⟩
section
variable {P : Program} {c : Ctx} {S : Slots} {M : Conts} {p : Bool} {d : Option Tmp} {ty : TypeId} {pos : String} {af : Array Edge} {gd : Option (Nat × Bool)} {x : Operand} {b : Bool}
theorem ok_clo {f : FuncId} {caps : List Operand} {ks : List Know} (ha : ArgsG S p caps ks) : OpOk P c S M ⟨d, .makeFunc (.func f) #[] caps.toArray, ty, pos, af, gd⟩ p (kClo f ks) none :=
  OpOk.pure fun hp a g w _ _ ho => by
    have hk := ha.eval (g := g) (ρ := a.eval) hp (fun y hy b k hk hb => ho y (by simp [Op.operands, hy]) b k hk hb)
    exact ⟨_, by simp [execOp, Instr.makeFunc], _, rfl, hk⟩
end
/-! ### 2. Things that stay where they are -/
/-- Whatever the slot: the thing t lies in bk. -/
def kTag (t : Nat) (bk : Bk) : Know := fun g _ => g.M t = some bk
instance (t : Nat) (bk : Bk) : KDep (kTag t bk) [t] := ⟨fun _ hd h => (hd t (by simp)).trans h⟩
instance (t : Nat) (bk : Bk) : KHas (kTag t bk) t := ⟨fun {g _} (h : g.M t = some bk) => by rw [h]; simp⟩
def tagSlots (n : Nat) (bks : Nat → Bk) : List Nat → Slots
  | [] => []
  | t :: ts => ⟨n + t, true, [t], kTag t (bks t)⟩ :: tagSlots n bks ts
/-- The slots that a callee begins with. -/
def paramsG : Nat → List (List Nat) → List Know → Slots
  | i, d :: ds, k :: ks => ⟨i, true, d, k⟩ :: paramsG (i + 1) ds ks
  | _, _, _ => []
inductive DepsK : List Know → List (List Nat) → Prop
  | nil : DepsK [] []
  | cons {k : Know} {ks : List Know} {d : List Nat} {ds : List (List Nat)} (h : KDep k d) (r : DepsK ks ds) : DepsK (k :: ks) (d :: ds)
class DepsOf (ks : List Know) (ds : outParam (List (List Nat))) : Prop where
  h : DepsK ks ds
instance : DepsOf [] [] := ⟨.nil⟩
instance {k : Know} {ks : List Know} {d : List Nat} {ds : List (List Nat)} [h : KDep k d] [r : DepsOf ks ds] : DepsOf (k :: ks) (d :: ds) := ⟨.cons h r.h⟩
theorem paramsG_hold {g : Gh} : ∀ {ks : List Know} {ds : List (List Nat)} {vs : List Value} {i t : Nat} {b : Bool} {k : Know}, allK g ks vs → look (paramsG i ds ks) t = some (b, k) → i ≤ t ∧ t < i + ks.length ∧ b = true ∧ ∃ v, vs[t - i]? = some v ∧ k g v
  | [], ds, _, _, _, _, _, _, h => by cases ds <;> cases h
  | _ :: _, [], _, _, _, _, _, _, h => by cases h
  | k0 :: ks, d :: ds, v :: vs, i, t, b, k, hh, h => by
    simp only [paramsG, look] at h
    cases hb : Nat.beq i t with
    | true =>
      rw [hb] at h
      simp only [cond_true, Option.some.injEq, Prod.mk.injEq] at h
      obtain ⟨rfl, rfl⟩ := h
      have := Nat.eq_of_beq_eq_true hb
      subst this
      exact ⟨Nat.le_refl _, by simp, rfl, v, by simp, hh.1⟩
    | false =>
      rw [hb] at h
      obtain ⟨h1, h2, h3, u, h4, h5⟩ := paramsG_hold hh.2 h
      refine ⟨by omega, by simp only [List.length_cons]; omega, h3, u, ?_, h5⟩
      rw [show t - i = (t - (i + 1)) + 1 by omega]; simpa using h4
theorem paramsG_mem : ∀ {ks : List Know} {ds : List (List Nat)} {i : Nat} {e : SE}, DepsK ks ds → e ∈ paramsG i ds ks → KDep e.k e.dep ∧ e.dep ∈ ds
  | [], ds, _, _, _, h => by cases ds <;> cases h
  | _ :: _, [], _, _, h, _ => by cases h
  | k :: ks, d :: ds, i, e, .cons hk r, h => by
    rcases List.mem_cons.1 h with rfl | h
    · exact ⟨hk, List.mem_cons_self⟩
    · obtain ⟨h1, h2⟩ := paramsG_mem r h
      exact ⟨h1, List.mem_cons_of_mem _ h2⟩
theorem look_app {S1 S2 : Slots} {t : Nat} {b : Bool} {k : Know} : look (S1 ++ S2) t = some (b, k) → look S1 t = some (b, k) ∨ look S2 t = some (b, k) := by
  induction S1 with
  | nil => exact .inr
  | cons e S1 ih =>
    intro h
    simp only [List.cons_append, look] at h ⊢
    cases hb : Nat.beq e.s t with
    | true => rw [hb] at h; exact .inl h
    | false => rw [hb] at h; exact ih h
theorem tagSlots_look {n : Nat} {bks : Nat → Bk} : ∀ {ts : List Nat} {t : Nat} {b : Bool} {k : Know}, look (tagSlots n bks ts) t = some (b, k) → b = true ∧ n ≤ t ∧ (t - n) ∈ ts ∧ k = kTag (t - n) (bks (t - n))
  | [], _, _, _, h => by cases h
  | u :: ts, t, b, k, h => by
    simp only [tagSlots, look] at h
    cases hb : Nat.beq (n + u) t with
    | true =>
      rw [hb] at h
      simp only [cond_true, Option.some.injEq, Prod.mk.injEq] at h
      have := Nat.eq_of_beq_eq_true hb
      subst this
      rw [Nat.add_sub_cancel_left]
      exact ⟨h.1.symm, by omega, List.mem_cons_self, h.2.symm⟩
    | false =>
      rw [hb] at h
      obtain ⟨h1, h2, h3, h4⟩ := tagSlots_look h
      exact ⟨h1, h2, List.mem_cons_of_mem _ h3, h4⟩
theorem tagSlots_mem {n : Nat} {bks : Nat → Bk} : ∀ {ts : List Nat} {e : SE}, e ∈ tagSlots n bks ts → ∃ t ∈ ts, e.dep = [t] ∧ e.k = kTag t (bks t)
  | [], _, h => by cases h
  | u :: ts, e, h => by
    rcases List.mem_cons.1 h with rfl | h
    · exact ⟨u, List.mem_cons_self, rfl, rfl⟩
    · obtain ⟨t, h1, h2⟩ := tagSlots_mem h
      exact ⟨t, List.mem_cons_of_mem _ h1, h2⟩
/-- What a call that was gone through in place leaves. -/
def RetI (c : Ctx) (keep : List Nat) (bks : Nat → Bk) (M : Conts) (res : Know) : Ending → World → Prop := fun e w' => ∃ r g', e = .returned r ∧ Ok c g' w' ∧ ContsHold M g' w' ∧ (∀ t, g'.M t ≠ none → t ∈ tags M) ∧ (tags M).Nodup ∧ ContsDep M M ∧ (∀ t ∈ keep, g'.M t = some (bks t)) ∧ res g' r
/-- What stays known of slots. -/
def keepS (keep : List Nat) : Slots → Slots
  | [] => []
  | e :: S => (cond (subT e.dep keep) e ⟨e.s, e.b, [], kAny⟩) :: keepS keep S
theorem keepS_look {keep : List Nat} : ∀ {S : Slots} {t : Nat} {b : Bool} {k : Know}, look (keepS keep S) t = some (b, k) → ∃ k0, look S t = some (b, k0) ∧ (k = kAny ∨ (k = k0 ∧ ∃ e ∈ S, e.k = k ∧ ∀ q ∈ e.dep, q ∈ keep))
  | [], _, _, _, h => by cases h
  | e :: S, t, b, k, h => by
    simp only [keepS] at h
    cases hs : subT e.dep keep with
    | true =>
      rw [hs] at h
      simp only [cond_true, look] at h ⊢
      cases hb : Nat.beq e.s t with
      | true =>
        rw [hb] at h
        simp only [cond_true, Option.some.injEq, Prod.mk.injEq] at h ⊢
        exact ⟨e.k, ⟨h.1, rfl⟩, .inr ⟨h.2.symm, e, List.mem_cons_self, h.2, subT_spec hs⟩⟩
      | false =>
        rw [hb] at h
        obtain ⟨k0, h1, h2⟩ := keepS_look h
        exact ⟨k0, h1, h2.imp id fun ⟨q1, e', q2, q3⟩ => ⟨q1, e', List.mem_cons_of_mem _ q2, q3⟩⟩
    | false =>
      rw [hs] at h
      simp only [cond_false, look] at h ⊢
      cases hb : Nat.beq e.s t with
      | true =>
        rw [hb] at h
        simp only [cond_true, Option.some.injEq, Prod.mk.injEq] at h ⊢
        exact ⟨e.k, ⟨h.1, rfl⟩, .inl h.2.symm⟩
      | false =>
        rw [hb] at h
        obtain ⟨k0, h1, h2⟩ := keepS_look h
        exact ⟨k0, h1, h2.imp id fun ⟨q1, e', q2, q3⟩ => ⟨q1, e', List.mem_cons_of_mem _ q2, q3⟩⟩
theorem keepS_mem {keep : List Nat} : ∀ {S : Slots} {e : SE}, e ∈ keepS keep S → (e ∈ S ∧ ∀ q ∈ e.dep, q ∈ keep) ∨ (e.dep = [] ∧ e.k = kAny)
  | [], _, h => by cases h
  | x :: S, e, h => by
    simp only [keepS] at h
    rcases List.mem_cons.1 h with h | h
    · cases hs : subT x.dep keep with
      | true => rw [hs] at h; subst h; exact .inl ⟨List.mem_cons_self, subT_spec hs⟩
      | false => rw [hs] at h; subst h; exact .inr ⟨rfl, rfl⟩
    · exact (keepS_mem h).imp (fun ⟨h1, h2⟩ => ⟨List.mem_cons_of_mem _ h1, h2⟩) id
section
variable {P : Program} {ops : Array Oper} {S : Slots} {M M' : Conts} {rest : List Oper} {Q : Exit → Act → World → Prop}
variable {d : Nat} {ty : TypeId} {pos : String} {af : Array Edge} {w0 : World} {J0 : JV} {bor : List Nat} {n : Nat}
/-- The call of a closure, gone through in place. -/
theorem TrL.inl {f : FuncId} [hf : TyFn P f] {fn : Func} {code : Code} {n' : Nat} {x : Operand} {args : List Operand} {tys : Array TypeId} {ks caps : List Know} {ds : List (List Nat)} {res : Know} {dep : List Nat} (keep : List Nat)
    (hfn : P.funcs[f]? = some fn) (hb : fn.body = some code) (hn' : fn.ntmps = n') (hlen : Nat.ble (ks.length + caps.length) n' = true)
    (hx : opK S x = some (true, kClo f caps)) (ha : ArgsG S true args ks) [hds : DepsOf (ks ++ caps) ds] (hdt : ds.all (fun d => subT d (tags M)) = true) (hkt : subT keep (tags M) = true)
    (M' : Conts) (hkt' : subT keep (tags M') = true) [hkr : KDep res dep] (hdr : subT dep (tags M') = true) (hn : Nat.blt d n = true)
    (h : ∀ (J : JV) (bks : Nat → Bk), Tr P ⟨w0, J, bor, n'⟩ (paramsG 0 ds (ks ++ caps) ++ tagSlots n' bks keep) M code (bodyPost P fn (RetI ⟨w0, J, bor, n'⟩ keep bks M' res)))
    (K : TrL P ⟨w0, J0, bor, n⟩ ops (⟨d, true, dep, res⟩ :: keepS keep S) M' rest Q) : TrL P ⟨w0, J0, bor, n⟩ ops S M (⟨some d, .call { callee := .value x, args := args.toArray, argTypes := tys }, ty, pos, af, none⟩ :: rest) Q := by
  intro a g w hsat
  have hdn : d < n := by simpa [Nat.blt_eq] using hn
  obtain ⟨cvs, hfv, hcaps⟩ := opK_holds hsat.slots hx rfl
  have hargs := ha.eval (g := g) (ρ := a.eval) rfl (fun y _ b k hk hb => opK_holds hsat.slots hk hb)
  have happ : ∀ {k1 k2 : List Know} {v1 v2 : List Value}, allK g k1 v1 → allK g k2 v2 → allK g (k1 ++ k2) (v1 ++ v2) := fun {k1} => by
    induction k1 with
    | nil => intro k2 v1 v2 h1 h2; cases v1 with
      | nil => exact h2
      | cons _ _ => exact h1.elim
    | cons k k1 ih => intro k2 v1 v2 h1 h2; cases v1 with
      | nil => exact h1.elim
      | cons v v1 => exact ⟨h1.1, ih h1.2 h2⟩
  have hall := happ hargs hcaps
  have hall_len := allK_len hall
  have hle : (ks ++ caps).length ≤ n' := by rw [List.length_append]; exact Nat.le_of_ble_eq_true hlen
  have hM : ∀ t ∈ tags M, ∃ bk, g.M t = some bk := fun t ht => by
    obtain ⟨e, he, rfl⟩ := List.mem_map.1 ht
    obtain ⟨bk, h1, _⟩ := hsat.conts e he
    exact ⟨bk, h1⟩
  have hkeep : ∀ t ∈ keep, g.M t = some ((g.M t).getD .nil) := fun t ht => by
    obtain ⟨bk, h1⟩ := hM t (subT_spec hkt t ht)
    rw [h1]; rfl
  have hr : Calls P f ((args.map a.eval ++ cvs).toArray) w (RetI ⟨w0, g.J, bor, n'⟩ keep (fun t => (g.M t).getD .nil) M' res) := by
    refine calls_of_wp hfn hb (h g.J (fun t => (g.M t).getD .nil) _ g w ⟨⟨hsat.ok.bel, JV.le_refl _, fun _ _ _ => rfl, hsat.ok.im, hsat.ok.own, hsat.ok.inj⟩, ?_, hsat.conts, hsat.dom, hsat.nodup, ?_, hsat.cdep, rfl, ?_⟩)
    · intro t b k hk
      rcases look_app hk with hk | hk
      · obtain ⟨_, h2, rfl, v, hv, hkv⟩ := paramsG_hold hall hk
        refine ⟨fun _ => ?_, fun hf => (by cases hf)⟩
        have ht : t < (args.map a.eval ++ cvs).length := (List.getElem?_eq_some_iff.1 (by simpa using hv)).1
        have : ((args.map a.eval ++ cvs).toArray ++ Array.replicate (fn.ntmps - (args.map a.eval ++ cvs).toArray.size) undef).getD t undef = v := by
          rw [Array.getD_eq_getD_getElem?, Array.getElem?_append_left (by simpa using ht), List.getElem?_toArray]
          rw [show (args.map a.eval ++ cvs)[t]? = some v by simpa using hv]
          rfl
        rw [this]; exact hkv
      · obtain ⟨rfl, _, h3, rfl⟩ := tagSlots_look hk
        exact ⟨fun _ => hkeep _ h3, fun hf => (by cases hf)⟩
    · intro e he
      rcases List.mem_append.1 he with he | he
      · obtain ⟨h1, h2⟩ := paramsG_mem hds.h he
        exact ⟨h1, fun t ht => subT_spec (List.all_eq_true.1 hdt _ h2) t ht⟩
      · obtain ⟨t, h1, h2, h3⟩ := tagSlots_mem he
        rw [h2, h3]
        exact ⟨inferInstance, fun q hq => by simp at hq; subst hq; exact subT_spec hkt _ h1⟩
    · simp only [Array.size_append, List.size_toArray, Array.size_replicate]; omega
  refine wpList_plain rfl fun K' hK' => ?_
  unfold Oper.wp
  simp only [execOp, resolve, hfv, Deferred.ofValue, Sem.run_bind, Sem.run_pure, Result.andThen_ok, invoke, List.map_toArray, List.append_toArray]
  rw [hf.run]
  simp only [Oper.upon]
  refine hr.mono fun e w' he => ?_
  obtain ⟨r, g', rfl, h1, h2, h3, h4, h5, h6, h7⟩ := he
  refine hK' _ _ (K _ g' _ ⟨⟨h1.bel, JV.le_trans hsat.ok.jle h1.jle, fun b o hb => (h1.jold b o hb).trans (hsat.ok.jold b o hb), h1.im, h1.own, h1.inj⟩, ?_, h2, h3, h4, ?_, h5, hsat.defers, by simp [Act.put, hsat.size]⟩)
  · refine SlotsHold.put (fun t b k hk => ?_) (by rw [hsat.size]; exact hdn) ⟨fun _ => h7, fun hf => by cases hf⟩
    obtain ⟨k0, q1, q2⟩ := keepS_look hk
    obtain ⟨q3, q4⟩ := hsat.slots t b k0 q1
    refine ⟨fun hb => ?_, q4⟩
    rcases q2 with rfl | ⟨rfl, e, he, rfl, hq⟩
    · trivial
    · exact (hsat.sdep e he).1.dep (g := g) h1.jle (fun t ht => by rw [h6 t (hq t ht), hkeep t (hq t ht)]) (q3 hb)
  · intro e he
    rcases List.mem_cons.1 he with rfl | he
    · exact ⟨hkr, subT_spec hdr⟩
    · rcases keepS_mem he with ⟨q1, q2⟩ | ⟨q1, q2⟩
      · exact ⟨(hsat.sdep e q1).1, fun t ht => subT_spec hkt' t (q2 t ht)⟩
      · rw [q1, q2]; exact ⟨inferInstance, fun _ h => by cases h⟩
end
/-! ### 3. The end of such a call -/
inductive KeptT (S : Slots) (n : Nat) (bks : Nat → Bk) : List Nat → Prop
  | nil : KeptT S n bks []
  | cons {t : Nat} {ts : List Nat} (h : look S (n + t) = some (true, kTag t (bks t))) (r : KeptT S n bks ts) : KeptT S n bks (t :: ts)
theorem KeptT.holds {S : Slots} {n : Nat} {bks : Nat → Bk} {a : Act} {g : Gh} (hs : SlotsHold S a g) : ∀ {ts : List Nat}, KeptT S n bks ts → ∀ t ∈ ts, g.M t = some (bks t)
  | _ :: _, .cons h r, t, ht => by
    rcases List.mem_cons.1 ht with rfl | ht
    · exact (hs _ _ _ h).1 rfl
    · exact r.holds hs t ht
section
variable {P : Program} {c : Ctx} {S : Slots} {M : Conts} {fn : Func} {keep : List Nat} {bks : Nat → Bk} {n t : Nat} {k res : Know}
theorem inl_post {a : Act} {g : Gh} {w : World} (hs : Sat c S M a g w) (hk : KeptT S n bks keep) {r : Value} (hr : res g r) : RetI c keep bks M res (.returned r) w :=
  ⟨r, g, rfl, hs.ok, hs.conts, hs.dom, hs.nodup, hs.cdep, hk.holds hs.slots, hr⟩
theorem Rts.inl0 (hr : fn.results = #[]) (hk : KeptT S n bks keep) : Rts c S M (bodyPost P fn (RetI c keep bks M (kDet (.tuple #[])))) :=
  fun _ _ _ hs => ⟨hs.defers, .tuple #[], by simp [results, hr], inl_post hs hk rfl⟩
theorem End.inl0 (hr : fn.results = #[]) (hk : KeptT S n bks keep) : End c S M (bodyPost P fn (RetI c keep bks M (kDet (.tuple #[])))) :=
  fun _ _ _ hs => ⟨hs.defers, .tuple #[], by simp [results, hr], inl_post hs hk rfl⟩
end
end Go.Fl

/- Parts of a row with their address: in states and results. No program in sight. -/
namespace Go.Fl
open Go Go.RowKit
theorem kSlv.down {α : Type} {e : Enc α} {ad : Option Addr} {cap : Nat} {xs : List α} {g : Gh} {v : Value} (k : kSlv e ad cap xs g v) : kSlv e ad cap xs ⟨g.J, noM⟩ v :=
  (inferInstance : KDep (kSlv e ad cap xs) []).dep (g := g) (g' := ⟨g.J, noM⟩) (JV.le_refl _) (fun _ h => by cases h) k
theorem RetOk.v {S : Slots} {t : Nat} {ts : List Nat} {ks : List Know} {α : Type} {e : Enc α} {ad : Option Addr} {cap : Nat} {xs ys : List α} (hl : look S t = some (true, kSlv e ad cap xs)) (he : xs = ys) (r : RetOk S ts ks) : RetOk S (t :: ts) (kSlv e ad cap ys :: ks) :=
  .cons hl (fun _ _ h => (h.cast he).down) r
theorem SSub.v {S S' : Slots} {M M' : Conts} {s : Nat} {α : Type} {e : Enc α} {ad : Option Addr} {cap : Nat} {xs ys : List α} (hl : look S s = some (true, kSlv e ad cap xs)) (he : xs = ys) (r : SSub S M S' M') : SSub S M (⟨s, true, [], kSlv e ad cap ys⟩ :: S') M' :=
  SSub.conv hl rfl (fun _ _ h => h.cast he) rfl r
section
variable {P : Program} {c : Ctx} {S : Slots} {M : Conts} {p : Bool} {d : Option Tmp} {ty : TypeId} {pos : String} {af : Array Edge} {gd : Option (Nat × Bool)} {x y : Operand} {b b' : Bool}
end
/-! ### Some of the blocks are not written within a region that draws -/
section
variable {P : Program} {c : Ctx} {S : Slots} {M1 M2 M : Conts} {Q : Exit → Act → World → Prop} {a : Act} {g : Gh} {w : World}
end
end Go.Fl

/- Structs that come back with a row of one's own, of which a part is wanted. No program in sight. -/
namespace Go.Fl
open Go Go.RowKit
instance {x : Bool} {u n m : Nat} : KDep (kAgg [kB x, kOsq u n 0 m]) [u] := (inferInstance : KDep (kAgg [kB x, kOsq u n 0 m]) _)
theorem ArgsOk.se {S : Slots} {p b : Bool} {x : Operand} {xs : List Operand} {kl : List Know} {α : Type} {e : Enc α} {v v' : α} {ks : List Know} (hx : opK S x = some (b, kAgg kl)) (hb : p = true → b = true) [hr : RdOf kl e v []] (ha : e.agg = true) (he : v = v') (r : ArgsOk S p xs ks) : ArgsOk S p (x :: xs) (kRd e v' :: ks) := by
  subst he; exact ArgsOk.s hx hb ha r
/-! ### A field of a value -/
section
variable {P : Program} {c : Ctx} {S : Slots} {M : Conts} {p : Bool} {d : Option Tmp} {ty : TypeId} {pos : String} {af : Array Edge} {gd : Option (Nat × Bool)} {x : Operand} {b : Bool}
end
end Go.Fl

/- Two structs that come back out of cells; a struct with a nil row. No program in sight. -/
namespace Go.Fl
open Go Go.RowKit
section
variable {P : Program} {n0 : Nat} {w0 : World} {J0 : JV} {S : Slots} {M : Conts} {fn : Func}
end
section
variable {P : Program} {c : Ctx} {S : Slots} {M : Conts} {Sp : World → Prop} {d : Option Tmp} {ty : TypeId} {pos : String} {af : Array Edge} {gd : Option (Nat × Bool)} {x : Operand}
end
theorem SSub.n {S S' : Slots} {M M' : Conts} {s cp : Nat} {α : Type} {e : Enc α} {y : List α} (hl : look S s = some (true, kDet (.slice none 0 cp))) (he : [] = y) (r : SSub S M S' M') : SSub S M (⟨s, true, [], kRd (eL e) y⟩ :: S') M' :=
  SSub.conv hl rfl (fun _ _ h => by subst he; exact ⟨_, rd_nil (c := cp), h⟩) rfl r
end Go.Fl

/- Closures whose captured values are immutable: their calls are calls by contract. No program in sight. -/
namespace Go.Fl
open Go Go.RowKit
/-- A function value that keeps a contract. -/
def kFnC {α : Type} (P : Program) (φ : α → Prop) (ks : α → List Know) (res : α → Know) : Know := fun g v => ∃ (f : FuncId) (caps : Array Value), v = .func (.func f) #[] caps ∧ TyFn P f ∧ ∀ a, φ a → ∀ w J, g.J.le J → Im J w → ∀ vs, allK ⟨J, noM⟩ (ks a) vs → Calls P f (vs.toArray ++ caps) w (RetR w J (res a))
instance {α : Type} {P : Program} {φ : α → Prop} {ks : α → List Know} {res : α → Know} : KDep (kFnC P φ ks res) [] := ⟨fun hl _ ⟨f, caps, h1, h2, h3⟩ => ⟨f, caps, h1, h2, fun a ha w J hJ => h3 a ha w J (JV.le_trans hl hJ)⟩⟩
instance {α : Type} {P : Program} {φ : α → Prop} {ks : α → List Know} {res : α → Know} : OneC (kFnC P φ ks res) := ⟨fun ⟨_, _, h, _⟩ => by subst h; rfl⟩
theorem allK_app {g : Gh} : ∀ {ks ks' : List Know} {vs vs' : List Value}, allK g ks vs → allK g ks' vs' → allK g (ks ++ ks') (vs ++ vs')
  | [], _, [], _, _, h => h
  | [], _, _ :: _, _, h, _ => h.elim
  | _ :: _, _, [], _, h, _ => h.elim
  | _ :: _, _, _ :: _, _, h, h' => ⟨h.1, allK_app h.2 h'⟩
theorem kFnC_clo {α : Type} {P : Program} {f : FuncId} [hf : TyFn P f] {φ : α → Prop} {ks : α → List Know} {res : α → Know} {cks : List Know} [hj : AllJ cks] (h : ∀ a, φ a → Ct P f (ks a ++ cks) (res a)) (g : Gh) (v : Value) (hv : kClo f cks g v) : kFnC P φ ks res g v := by
  obtain ⟨cvs, rfl, hc⟩ := hv
  refine ⟨f, cvs.toArray, rfl, hf, fun a ha w J hJ him vs hvs => ?_⟩
  have h1 : allK ⟨J, noM⟩ cks cvs := allK_mono (J := g.J) hJ hj.all (allK_sameJ (g := g) (g' := ⟨g.J, noM⟩) (JV.le_refl _) hj.all hc)
  have := h a ha w J him (vs ++ cvs) (allK_app hvs h1)
  rwa [List.append_toArray]
section
variable {P : Program} {c : Ctx} {S : Slots} {M : Conts} {p : Bool} {d : Option Tmp} {ty : TypeId} {pos : String} {af : Array Edge} {gd : Option (Nat × Bool)} {x : Operand} {b : Bool}
theorem ok_callC {α : Type} (a : α) {φ : α → Prop} {ks : α → List Know} {res : α → Know} {args : List Operand} {tys : Array TypeId} (hx : opK S x = some (b, kFnC P φ ks res)) (hb : p = true → b = true) (ha : p = true → φ a) (hargs : ArgsOk S p args (ks a)) [hk : KDep (res a) []] :
    OpOk P c S M ⟨d, .call { callee := .value x, args := args.toArray, argTypes := tys }, ty, pos, af, gd⟩ p (res a) none := by
  intro hp q g w hok hc ho _
  obtain ⟨f, caps, hfv, hf, hct⟩ := ho x (by simp [Op.operands, Call.operands]) b _ hx (hb hp)
  have hvs := hargs.eval (g := g) (ρ := q.eval) hp (fun y hy b k hk hb => ho y (by simp [Op.operands, Call.operands, hy]) b k hk hb)
  have hr := hct a (ha hp) w g.J (JV.le_refl _) hok.im _ hvs
  unfold Oper.wp
  simp only [execOp, resolve, hfv, Deferred.ofValue, Sem.run_bind, Sem.run_pure, Result.andThen_ok, invoke, List.map_toArray, Array.empty_append]
  rw [hf.run]
  simp only [Oper.upon]
  refine hr.mono fun e w' he => ?_
  obtain ⟨r, J', rfl, hbel, hJ, hold, him, hres⟩ := he
  exact ⟨r, _, rfl, Did.call hok hbel hJ hold him hres⟩
end
/-! ### Function values in cells -/
/-- A cell that holds what k knows. -/
def eFn (k : Know) [hk : KDep k []] [h1 : OneC k] : Enc Unit where
  n := 1
  agg := false
  rd J cs _ := ∃ v, cs = [v] ∧ k ⟨J, noM⟩ v
  len := fun ⟨v, h, _⟩ => by rw [h]; rfl
  one := fun _ => ⟨rfl, fun ⟨v, h, hv⟩ => by cases h; exact h1.imp hv⟩
  all1 := fun ⟨v, h, hv⟩ u hu => by rw [h] at hu; simp at hu; subst hu; exact h1.imp hv
  mono := fun hJ ⟨v, h, hv⟩ => ⟨v, h, hk.dep (g := ⟨_, noM⟩) hJ (fun _ h => by cases h) hv⟩
instance {k : Know} [hk : KDep k []] [h1 : OneC k] : Norm (eFn k) () k := ⟨fun {g v} ⟨cs, ⟨u, h, hu⟩, hv⟩ => by
  subst h
  have e : v = u := hv
  subst e
  exact hk.dep (g := ⟨g.J, noM⟩) (g' := g) (JV.le_refl _) (fun _ h => by cases h) hu⟩
theorem RdOf.fn {k : Know} [hk : KDep k []] [h1 : OneC k] {r : List Know} : RdOf (k :: r) (eFn k) () r := .one fun {g v} h => ⟨v, rfl, hk.dep (g := g) (g' := ⟨g.J, noM⟩) (JV.le_refl _) (fun _ h => by cases h) h⟩
instance {α : Type} {P : Program} {φ : α → Prop} {ks : α → List Know} {res : α → Know} {r : List Know} : RdOf (kFnC P φ ks res :: r) (eFn (kFnC P φ ks res)) () r := .fn
end Go.Fl

/- Searching a list, rows above others. Plain Lean, no program in sight. -/
namespace Go.Fl
/-- The first place at which f holds, or -1. -/
def ixF (f : Int → Bool) : List Int → Int
  | [] => -1
  | x :: l => if f x = true then 0 else if ixF f l < 0 then -1 else ixF f l + 1
theorem ixF_none {f : Int → Bool} : ∀ {l : List Int}, (∀ i, i < l.length → f (nth l i) = false) → ixF f l = -1
  | [], _ => rfl
  | x :: l, h => by
    have h0 := h 0 (by simp)
    have e : nth (x :: l) 0 = x := rfl
    rw [e] at h0
    rw [ixF, if_neg (by rw [h0]; simp), ixF_none fun i hi => h (i + 1) (by simpa using hi)]
    rfl
theorem ixF_at {f : Int → Bool} : ∀ {l : List Int} {k : Nat}, k < l.length → (∀ i, i < k → f (nth l i) = false) → f (nth l k) = true → ixF f l = k
  | [], k, hk, _, _ => by simp at hk
  | x :: l, 0, _, _, h => by
    have e : nth (x :: l) 0 = x := rfl
    rw [e] at h
    rw [ixF, if_pos h]; rfl
  | x :: l, k + 1, hk, hn, h => by
    have h0 := hn 0 (by omega)
    have e : nth (x :: l) 0 = x := rfl
    rw [e] at h0
    have ih := ixF_at (l := l) (k := k) (by simpa using hk) (fun i hi => hn (i + 1) (by omega)) h
    rw [ixF, if_neg (by rw [h0]; simp), ih, if_neg (by omega)]
    rfl
theorem ixF_any {f : Int → Bool} : ∀ {l : List Int}, decide (0 ≤ ixF f l) = l.any f
  | [] => rfl
  | x :: l => by
    have ih := ixF_any (f := f) (l := l)
    rw [List.any_cons, ixF]
    by_cases h : f x = true
    · rw [if_pos h, h]; rfl
    · rw [if_neg h, Bool.eq_false_iff.2 h, Bool.false_or, ← ih]
      split
      · rw [decide_eq_decide]; omega
      · rw [decide_eq_decide]; omega
/-- The squares above others. -/
def abvL (o : Ori) (l : List Int) : List Int := tab l.length fun k => nth o.2 (nth l k).toNat
/-- The least of the first k elements (k is not 0). -/
def mnK (l : List Int) : Nat → Int
  | 0 => nth l 0
  | 1 => nth l 0
  | k + 2 => if nth l (k + 1) < mnK l (k + 1) then nth l (k + 1) else mnK l (k + 1)
theorem mnK_succ {l : List Int} {k : Nat} (h : 1 ≤ k) : (if nth l k < mnK l k then nth l k else mnK l k) = mnK l (k + 1) := by
  obtain ⟨j, rfl⟩ : ∃ j, k = j + 1 := ⟨k - 1, by omega⟩
  rfl
/-- The least square of the first k rows. -/
def lsK (L : List (List Int)) : Nat → Int
  | 0 => nth (nth L 0) 0
  | k + 1 => if mnK (nth L k) (nth L k).length < lsK L k then mnK (nth L k) (nth L k).length else lsK L k
def lsB (L : List (List Int)) : Int := lsK L L.length
theorem mnK_mem {l : List Int} : ∀ {k : Nat}, k ≤ l.length → 0 < l.length → mnK l k ∈ l
  | 0, _, h => nth_mem h
  | 1, _, h => nth_mem h
  | k + 2, hk, h => by
    rw [mnK]
    split
    · exact nth_mem (by omega)
    · exact mnK_mem (by omega) h
theorem lsK_mem {L : List (List Int)} (h : ∀ l ∈ L, 0 < l.length) (h0 : 0 < L.length) : ∀ {k : Nat}, k ≤ L.length → ∃ l ∈ L, lsK L k ∈ l
  | 0, _ => ⟨nth L 0, nth_mem h0, nth_mem (h _ (nth_mem h0))⟩
  | k + 1, hk => by
    rw [lsK]
    split
    · exact ⟨nth L k, nth_mem (by omega), mnK_mem (Nat.le_refl _) (h _ (nth_mem (by omega)))⟩
    · exact lsK_mem h h0 (by omega)
end Go.Fl

/- Contracts: searches by function values, rows above others. -/
namespace Go.Fl
open Go Go.Proofs

set_option maxRecDepth 100000 in
theorem ct_idxF (l : List Int) (φ : Int → Prop) (f : Int → Bool) (hl : ∀ x ∈ l, φ x) : Ct Try.prog 74 [kRd (eL eI) l, kFnC Try.prog φ (fun x : Int => [kI x]) (fun x : Int => kB (f x))] (kI (ixF f l)) := by
  refine Ct.mk Try.func74 rfl Try.ntmps74 rfl (fun w J => ?_)
  refine Tr.fact (s := 0) rfl (fun _ _ h => lenB h) (fun hb => ?_)
  refine Tr.seq ?_
  refine Tr.rg ?_
  refine TrL.op (ok_assign rfl (fun _ => rfl)) rfl rfl ?_
  refine TrL.fin ?_
  refine End.nxt ?_
  refine Tr.seq ?_
  refine Tr.seq ?_
  refine Tr.rg ?_
  refine TrL.op (ok_move rfl (fun _ => rfl)) rfl rfl ?_
  refine TrL.op (ok_lenJ rfl (fun _ => rfl)) rfl rfl ?_
  refine TrL.op (ok_move rfl (fun _ => rfl)) rfl rfl ?_
  refine TrL.fin ?_
  refine End.nxt ?_
  refine Tr.for1 (σ := Nat) [⟨0, true, _, _⟩, ⟨1, true, _, _⟩, ⟨7, true, _, _⟩] [] (fun k => [⟨8, true, [], kI (k : Int)⟩]) (fun k => []) (fun k => k ≤ l.length ∧ ∀ i, i < k → f (nth l i) = false) (fun k => ∀ i, i < l.length → f (nth l i) = false) (fun k => l.length - k) (0) ⟨by omega, fun i h => absurd h (by omega)⟩ (Ent.mk (.i rfl (by first | rfl | omega | (simp; done) | (simp; omega) | assumption) <| .k rfl rfl <| .k rfl rfl <| .k rfl rfl <| .nil) (.nil) rfl) ?_ ?_
  · rintro k ⟨hk, hR⟩
    refine Tr.norm (S' := [⟨8, true, _, _⟩, ⟨0, true, _, _⟩, ⟨1, true, _, _⟩, ⟨7, true, _, _⟩]) (M' := []) rfl rfl ?_
    refine Tr.seq ?_
    refine Tr.rg ?_
    refine TrL.op (ok_lss rfl (fun _ => rfl) rfl (fun _ => rfl)) rfl rfl ?_
    refine TrL.fin ?_
    refine End.nxt ?_
    refine Tr.seq ?_
    refine Tr.cnd rfl ?_ ?_
    · intro h2
      replace h2 := of_decide_eq_true h2
      refine Tr.skip ?_
      refine End.nxt ?_
      refine Tr.seq ?_
      refine Tr.blk ?_
      refine Tr.seq ?_
      refine Tr.rg ?_
      refine TrL.op (ok_move rfl (fun _ => rfl)) rfl rfl ?_
      refine TrL.op (ok_assign rfl (fun _ => rfl)) rfl rfl ?_
      refine TrL.fin ?_
      refine End.nxt ?_
      refine Tr.seq ?_
      refine Tr.rg ?_
      refine TrL.op (ok_move rfl (fun _ => rfl)) rfl rfl ?_
      refine TrL.op (ok_move rfl (fun _ => rfl)) rfl rfl ?_
      refine TrL.op (ok_move rfl (fun _ => rfl)) rfl rfl ?_
      first | refine TrL.op (ok_idxN rfl (fun _ => rfl) rfl (fun _ => rfl) rfl (fun _ => by omega)) rfl rfl ?_ | refine TrL.op (ok_idxP rfl (fun _ => rfl) rfl (fun _ => rfl) rfl (fun _ => by omega)) rfl rfl ?_
      refine TrL.op (ok_ldP rfl (fun _ => rfl) rfl) rfl rfl ?_
      refine TrL.op (ok_callC (nth l k) rfl (fun _ => rfl) (fun _ => hl _ (nth_mem (by omega))) (.a rfl (fun _ => rfl) <| .nil)) rfl rfl ?_
      refine TrL.fin ?_
      refine End.nxt ?_
      refine Tr.cnd rfl ?_ ?_
      · intro h4
        refine Tr.seq ?_
        refine Tr.rg ?_
        refine TrL.op (ok_move rfl (fun _ => rfl)) rfl rfl ?_
        refine TrL.op (ok_assign rfl (fun _ => rfl)) rfl rfl ?_
        refine TrL.fin ?_
        refine End.nxt ?_
        refine Tr.ret ?_
        refine Rts.out ?_
        refine Rts.thn ?_
        refine Rts.thn ?_
        refine Rts.out ?_
        refine Rts.thn ?_
        refine Rts.thn ?_
        exact Rts.res1 (fn := Try.f74) rfl (.i rfl (ixF_at (by omega) hR h4).symm <| .nil)
      · intro h4
        refine Tr.skip ?_
        refine End.blk ?_
        refine End.nxt ?_
        refine Tr.rg ?_
        refine TrL.op (ok_add rfl (fun _ => rfl) rfl (fun _ => rfl) (fun _ => by omega)) rfl rfl ?_
        refine TrL.op (ok_move rfl (fun _ => rfl)) rfl rfl ?_
        refine TrL.fin ?_
        exact End.lp (k + 1) ⟨by omega, fun i hi => by (rcases Nat.lt_succ_iff_lt_or_eq.1 hi with h | h; exact hR i h; subst h; exact h4)⟩ (by omega) (Ent.mk (.i rfl (by first | rfl | omega | (simp; done) | (simp; omega) | assumption) <| .k rfl rfl <| .k rfl rfl <| .k rfl rfl <| .nil) (.nil) rfl)
    · intro h2
      replace h2 := Int.not_lt.1 (of_decide_eq_false h2)
      refine Tr.exit ?_
      refine Exs.thn ?_
      refine Exs.thn ?_
      refine Exs.here ?_
      exact End.cut (k) (fun i hi => hR i (by omega)) (Ent.mk (.i rfl (by first | rfl | omega | (simp; done) | (simp; omega) | assumption) <| .k rfl rfl <| .k rfl rfl <| .k rfl rfl <| .nil) (.nil) rfl)
  · intro k hE
    refine End.norm (S' := [⟨8, true, _, _⟩, ⟨0, true, _, _⟩, ⟨1, true, _, _⟩, ⟨7, true, _, _⟩]) (M' := []) rfl rfl ?_
    refine End.nxt ?_
    refine Tr.seq ?_
    refine Tr.rg ?_
    refine TrL.op (ok_assign rfl (fun _ => rfl)) rfl rfl ?_
    refine TrL.fin ?_
    refine End.nxt ?_
    refine Tr.ret ?_
    exact Rts.res1 (fn := Try.f74) rfl (.i rfl (ixF_none hE).symm <| .nil)

set_option maxRecDepth 100000 in
theorem ct_contF (l : List Int) (φ : Int → Prop) (f : Int → Bool) (hl : ∀ x ∈ l, φ x) : Ct Try.prog 47 [kRd (eL eI) l, kFnC Try.prog φ (fun x : Int => [kI x]) (fun x : Int => kB (f x))] (kB (l.any f)) := by
  refine Ct.mk Try.func47 rfl Try.ntmps47 rfl (fun w J => ?_)
  refine Tr.seq ?_
  refine Tr.rg ?_
  refine TrL.op (ok_assign rfl (fun _ => rfl)) rfl rfl ?_
  refine TrL.fin ?_
  refine End.nxt ?_
  refine Tr.seq ?_
  refine Tr.rg ?_
  refine TrL.op (ok_move rfl (fun _ => rfl)) rfl rfl ?_
  refine TrL.op (ok_move rfl (fun _ => rfl)) rfl rfl ?_
  refine TrL.op (ok_call (fun hp => ct_idxF _ _ _ (by assumption)) (.a rfl (fun _ => rfl) <| .a rfl (fun _ => rfl) <| .nil)) rfl rfl ?_
  refine TrL.op (ok_geq rfl (fun _ => rfl) rfl (fun _ => rfl)) rfl rfl ?_
  refine TrL.op (ok_assign rfl (fun _ => rfl)) rfl rfl ?_
  refine TrL.fin ?_
  refine End.nxt ?_
  refine Tr.ret ?_
  exact Rts.res1 (fn := Try.f47) rfl (.b rfl ixF_any <| .nil)

set_option maxRecDepth 100000 in
theorem ct_cyl11 (x : Int) (v : List Int) (hx : 0 ≤ x ∧ x < v.length) : Ct Try.prog 48 [kI x, kPtr (eL eI) v] (kB (decide (0 < nth v x.toNat))) := by
  refine Ct.mk Try.func48 rfl Try.ntmps48 rfl (fun w J => ?_)
  refine Tr.seq ?_
  refine Tr.rg ?_
  refine TrL.op (ok_assign rfl (fun _ => rfl)) rfl rfl ?_
  refine TrL.fin ?_
  refine End.nxt ?_
  refine Tr.seq ?_
  refine Tr.rg ?_
  refine TrL.op (ok_ldP rfl (fun _ => rfl) rfl) rfl rfl ?_
  refine TrL.op (ok_move rfl (fun _ => rfl)) rfl rfl ?_
  first | refine TrL.op (ok_idxN rfl (fun _ => rfl) rfl (fun _ => rfl) rfl (fun _ => by omega)) rfl rfl ?_ | refine TrL.op (ok_idxP rfl (fun _ => rfl) rfl (fun _ => rfl) rfl (fun _ => by omega)) rfl rfl ?_
  refine TrL.op (ok_ldP rfl (fun _ => rfl) rfl) rfl rfl ?_
  refine TrL.op (ok_gtr rfl (fun _ => rfl) rfl (fun _ => rfl)) rfl rfl ?_
  refine TrL.op (ok_assign rfl (fun _ => rfl)) rfl rfl ?_
  refine TrL.fin ?_
  refine End.nxt ?_
  refine Tr.ret ?_
  exact Rts.res1 (fn := Try.f48) rfl (.b rfl (by first | rfl | omega | (simp; done) | (simp; omega) | assumption) <| .nil)

set_option maxRecDepth 100000 in
theorem ct_cyl1 (l : List Int) (m : Bool) (v : List Int) (hl : ∀ x ∈ l, 0 ≤ x ∧ x < v.length) : Ct Try.prog 46 [kRd (eL eI) l, kPtr eBool m, kPtr (eL eI) v] (kB (m || l.any fun x => decide (0 < nth v x.toNat))) := by
  refine Ct.mk Try.func46 rfl Try.ntmps46 rfl (fun w J => ?_)
  refine Tr.seq ?_
  refine Tr.rg ?_
  refine TrL.op (ok_assign rfl (fun _ => rfl)) rfl rfl ?_
  refine TrL.fin ?_
  refine End.nxt ?_
  refine Tr.seq ?_
  refine Tr.rg ?_
  refine TrL.op (ok_ldP rfl (fun _ => rfl) rfl) rfl rfl ?_
  refine TrL.op (ok_move rfl (fun _ => rfl)) rfl rfl ?_
  refine TrL.gd rfl rfl rfl (ok_move rfl (fun _ => rfl)) rfl rfl ?_
  refine TrL.gd rfl rfl rfl (ok_clo (.cons rfl (fun _ => rfl) .nil)) rfl rfl ?_
  refine TrL.gd rfl rfl rfl (ok_call (fun hp => ct_contF l (fun x => 0 ≤ x ∧ x < v.length) (fun x => decide (0 < nth v x.toNat)) hl) (.a rfl id <| .cons rfl id (fun g u h => kFnC_clo (fun a ha => ct_cyl11 a v ha) g u h) <| .nil)) rfl rfl ?_
  refine TrL.op (ok_or rfl (fun _ => rfl) rfl (fun hp h => gdF2 ((fun _ => rfl) hp) h)) rfl rfl ?_
  refine TrL.op (ok_assign rfl (fun _ => rfl)) rfl rfl ?_
  refine TrL.fin ?_
  refine End.nxt ?_
  refine Tr.ret ?_
  exact Rts.res1 (fn := Try.f46) rfl (.b rfl (by first | rfl | omega | (simp; done) | (simp; omega) | assumption) <| .nil)

set_option maxRecDepth 100000 in
theorem ct_above (o : Ori) (l : List Int) (hl : ∀ x ∈ l, 0 ≤ x ∧ x < o.2.length) (hn : l.length ≤ 1000000) : Ct Try.prog 50 [kRd eO o, kRd (eL eI) l] (kRd (eL eI) (abvL o l)) := by
  refine Ct.mk Try.func50 rfl Try.ntmps50 rfl (fun w J => ?_)
  refine Tr.seq ?_
  refine Tr.rg ?_
  refine TrL.new (ok_box 2 rfl (fun _ => rfl) rfl) rfl rfl rfl rfl ?_
  refine TrL.op (ok_assign rfl (fun _ => rfl)) rfl rfl ?_
  refine TrL.fin ?_
  refine End.nxt ?_
  refine Tr.seq ?_
  refine Tr.rg ?_
  refine TrL.op (ok_move rfl (fun _ => rfl)) rfl rfl ?_
  refine TrL.op (ok_lenJ rfl (fun _ => rfl)) rfl rfl ?_
  refine TrL.new (ok_makeN eI 10 rfl (fun _ => rfl) rfl (fun _ => rfl) rfl rfl rfl (fun _ => by omega)) rfl rfl rfl rfl ?_
  refine TrL.op (ok_assign rfl (fun _ => rfl)) rfl rfl ?_
  refine TrL.fin ?_
  refine End.nxt ?_
  refine Tr.seq ?_
  refine Tr.seq ?_
  refine Tr.rg ?_
  refine TrL.op (ok_move rfl (fun _ => rfl)) rfl rfl ?_
  refine TrL.op (ok_lenJ rfl (fun _ => rfl)) rfl rfl ?_
  refine TrL.op (ok_move rfl (fun _ => rfl)) rfl rfl ?_
  refine TrL.fin ?_
  refine End.nxt ?_
  refine Tr.for1 (σ := Nat) [⟨2, true, _, _⟩, ⟨5, true, _, _⟩, ⟨11, true, _, _⟩, ⟨12, true, _, _⟩] [⟨2, _, _⟩] (fun k => [⟨13, true, [], kI (k : Int)⟩]) (fun k => [⟨10, [], cArr false 3 eI (fillTo 0 (fun k => nth o.2 (nth l k).toNat) l.length k) l.length⟩]) (fun k => k ≤ l.length) (fun k => k = l.length) (fun k => l.length - k) (0) (Nat.zero_le _) (Ent.mk (.i rfl (by first | rfl | omega | (simp; done) | (simp; omega) | assumption) <| .k rfl rfl <| .k rfl rfl <| .k rfl rfl <| .k rfl rfl <| .nil) (.a fillTo_zero (by first | rfl | omega | (simp; done) | (simp; omega) | assumption) <| .k rfl <| .nil) rfl) ?_ ?_
  · intro k hR0
    refine Tr.norm (S' := [⟨13, true, _, _⟩, ⟨2, true, _, _⟩, ⟨5, true, _, _⟩, ⟨11, true, _, _⟩, ⟨12, true, _, _⟩]) (M' := [⟨10, _, _⟩, ⟨2, _, _⟩]) rfl rfl ?_
    have hlk := fun (h : k < l.length) => hl _ (nth_mem h)
    refine Tr.seq ?_
    refine Tr.rg ?_
    refine TrL.op (ok_lss rfl (fun _ => rfl) rfl (fun _ => rfl)) rfl rfl ?_
    refine TrL.fin ?_
    refine End.nxt ?_
    refine Tr.seq ?_
    refine Tr.cnd rfl ?_ ?_
    · intro h3
      replace h3 := of_decide_eq_true h3
      refine Tr.skip ?_
      refine End.nxt ?_
      refine Tr.seq ?_
      refine Tr.blk ?_
      refine Tr.seq ?_
      refine Tr.rg ?_
      refine TrL.op (ok_move rfl (fun _ => rfl)) rfl rfl ?_
      first | refine TrL.op (ok_idxN rfl (fun _ => rfl) rfl (fun _ => rfl) rfl (fun _ => by omega)) rfl rfl ?_ | refine TrL.op (ok_idxP rfl (fun _ => rfl) rfl (fun _ => rfl) rfl (fun _ => by omega)) rfl rfl ?_
      refine TrL.op (ok_ldP rfl (fun _ => rfl) rfl) rfl rfl ?_
      refine TrL.op (ok_assign rfl (fun _ => rfl)) rfl rfl ?_
      refine TrL.op (ok_assign rfl (fun _ => rfl)) rfl rfl ?_
      refine TrL.fin ?_
      refine End.nxt ?_
      refine Tr.rg ?_
      have hlx := hlk (by omega)
      refine TrL.op (ok_move rfl (fun _ => rfl)) rfl rfl ?_
      refine TrL.op (ok_move rfl (fun _ => rfl)) rfl rfl ?_
      refine TrL.op (ok_fldO rfl (fun _ => rfl)) rfl rfl ?_
      refine TrL.op (ok_ldB rfl (fun _ => rfl) rfl) rfl rfl ?_
      refine TrL.op (ok_move rfl (fun _ => rfl)) rfl rfl ?_
      first | refine TrL.op (ok_idxN rfl (fun _ => rfl) rfl (fun _ => rfl) rfl (fun _ => by omega)) rfl rfl ?_ | refine TrL.op (ok_idxP rfl (fun _ => rfl) rfl (fun _ => rfl) rfl (fun _ => by omega)) rfl rfl ?_
      refine TrL.op (ok_ldP rfl (fun _ => rfl) rfl) rfl rfl ?_
      first | refine TrL.op (ok_idxEN rfl (fun _ => rfl) rfl (fun _ => rfl) (fun _ => by omega)) rfl rfl ?_ | refine TrL.op (ok_idxE rfl (fun _ => rfl) rfl (fun _ => rfl) (fun _ => by omega)) rfl rfl ?_
      refine TrL.stE rfl rfl rfl rfl rfl ?_
      refine TrL.fin ?_
      refine End.blk ?_
      refine End.nxt ?_
      refine Tr.rg ?_
      refine TrL.op (ok_add rfl (fun _ => rfl) rfl (fun _ => rfl) (fun _ => by omega)) rfl rfl ?_
      refine TrL.op (ok_move rfl (fun _ => rfl)) rfl rfl ?_
      refine TrL.fin ?_
      exact End.lp (k + 1) (by first | rfl | omega | (simp; done) | (simp; omega) | assumption) (by omega) (Ent.mk (.i rfl (by first | rfl | omega | (simp; done) | (simp; omega) | assumption) <| .k rfl rfl <| .k rfl rfl <| .k rfl rfl <| .k rfl rfl <| .nil) (.a (by rw [← fillTo_succ]) (by first | rfl | omega | (simp; done) | (simp; omega) | assumption) <| .k rfl <| .nil) rfl)
    · intro h3
      replace h3 := Int.not_lt.1 (of_decide_eq_false h3)
      refine Tr.exit ?_
      refine Exs.thn ?_
      refine Exs.thn ?_
      refine Exs.here ?_
      exact End.cut (k) (by omega) (Ent.mk (.i rfl (by first | rfl | omega | (simp; done) | (simp; omega) | assumption) <| .k rfl rfl <| .k rfl rfl <| .k rfl rfl <| .k rfl rfl <| .nil) (.a (by first | rfl | omega | (simp; done) | (simp; omega) | assumption) (by first | rfl | omega | (simp; done) | (simp; omega) | assumption) <| .k rfl <| .nil) rfl)
  · rintro _ rfl
    refine End.norm (S' := [⟨13, true, _, _⟩, ⟨2, true, _, _⟩, ⟨5, true, _, _⟩, ⟨11, true, _, _⟩, ⟨12, true, _, _⟩]) (M' := [⟨10, _, _⟩, ⟨2, _, _⟩]) rfl rfl ?_
    refine End.nxt ?_
    refine Tr.seq ?_
    refine Tr.rg ?_
    refine TrL.op (ok_move rfl (fun _ => rfl)) rfl rfl ?_
    refine TrL.op (ok_assign rfl (fun _ => rfl)) rfl rfl ?_
    refine TrL.fin ?_
    refine End.nxt ?_
    refine Tr.frz 10 [4] ⟨rfl, trivial⟩ (by simp only [lenMax]; omega) rfl ?_
    refine Tr.ret ?_
    exact Rts.res1 (fn := Try.f50) rfl (.r rfl (fillTo_all.trans rfl) <| .nil)

set_option maxRecDepth 100000 in
theorem ct_slMin (l : List Int) (h0 : 0 < l.length) : Ct Try.prog 52 [kRd (eL eI) l] (kI (mnK l l.length)) := by
  refine Ct.mk Try.func52 rfl Try.ntmps52 rfl (fun w J => ?_)
  refine Tr.fact (s := 0) rfl (fun _ _ h => lenB h) (fun hb => ?_)
  refine Tr.seq ?_
  refine Tr.rg ?_
  refine TrL.op (ok_assign rfl (fun _ => rfl)) rfl rfl ?_
  refine TrL.fin ?_
  refine End.nxt ?_
  refine Tr.seq ?_
  refine Tr.seq ?_
  refine Tr.rg ?_
  refine TrL.op (ok_move rfl (fun _ => rfl)) rfl rfl ?_
  refine TrL.op (ok_lenJ rfl (fun _ => rfl)) rfl rfl ?_
  refine TrL.op (ok_lss rfl (fun _ => rfl) rfl (fun _ => rfl)) rfl rfl ?_
  refine TrL.fin ?_
  refine End.nxt ?_
  refine Tr.cnd rfl ?_ ?_
  · intro h1
    replace h1 := of_decide_eq_true h1
    omega
  · intro h1
    replace h1 := Int.not_lt.1 (of_decide_eq_false h1)
    refine Tr.skip ?_
    refine End.nxt ?_
    refine Tr.seq ?_
    refine Tr.rg ?_
    refine TrL.op (ok_move rfl (fun _ => rfl)) rfl rfl ?_
    first | refine TrL.op (ok_idxN rfl (fun _ => rfl) rfl (fun _ => rfl) rfl (fun _ => by omega)) rfl rfl ?_ | refine TrL.op (ok_idxP rfl (fun _ => rfl) rfl (fun _ => rfl) rfl (fun _ => by omega)) rfl rfl ?_
    refine TrL.op (ok_ldP rfl (fun _ => rfl) rfl) rfl rfl ?_
    refine TrL.op (ok_assign rfl (fun _ => rfl)) rfl rfl ?_
    refine TrL.fin ?_
    refine End.nxt ?_
    refine Tr.seq ?_
    refine Tr.seq ?_
    refine Tr.rg ?_
    refine TrL.op (ok_assign rfl (fun _ => rfl)) rfl rfl ?_
    refine TrL.fin ?_
    refine End.nxt ?_
    refine Tr.for1 (σ := Nat) [⟨0, true, _, _⟩] [] (fun k => [⟨3, true, [], kI (mnK l k)⟩, ⟨4, true, [], kI (k : Int)⟩]) (fun k => []) (fun k => 1 ≤ k ∧ k ≤ l.length) (fun k => k = l.length) (fun k => l.length - k) (1) ⟨by omega, by omega⟩ (Ent.mk (.i rfl rfl <| .i rfl (by first | rfl | omega | (simp; done) | (simp; omega) | assumption) <| .k rfl rfl <| .nil) (.nil) rfl) ?_ ?_
    · rintro k ⟨hk1, hk⟩
      refine Tr.norm (S' := [⟨3, true, _, _⟩, ⟨4, true, _, _⟩, ⟨0, true, _, _⟩]) (M' := []) rfl rfl ?_
      refine Tr.seq ?_
      refine Tr.seq ?_
      refine Tr.rg ?_
      refine TrL.op (ok_move rfl (fun _ => rfl)) rfl rfl ?_
      refine TrL.op (ok_move rfl (fun _ => rfl)) rfl rfl ?_
      refine TrL.op (ok_lenJ rfl (fun _ => rfl)) rfl rfl ?_
      refine TrL.op (ok_lss rfl (fun _ => rfl) rfl (fun _ => rfl)) rfl rfl ?_
      refine TrL.fin ?_
      refine End.nxt ?_
      refine Tr.cnd rfl ?_ ?_
      · intro h5
        replace h5 := of_decide_eq_true h5
        refine Tr.skip ?_
        refine End.nxt ?_
        refine Tr.seq ?_
        refine Tr.blk ?_
        refine Tr.rg ?_
        refine TrL.op (ok_move rfl (fun _ => rfl)) rfl rfl ?_
        refine TrL.op (ok_move rfl (fun _ => rfl)) rfl rfl ?_
        refine TrL.op (ok_move rfl (fun _ => rfl)) rfl rfl ?_
        first | refine TrL.op (ok_idxN rfl (fun _ => rfl) rfl (fun _ => rfl) rfl (fun _ => by omega)) rfl rfl ?_ | refine TrL.op (ok_idxP rfl (fun _ => rfl) rfl (fun _ => rfl) rfl (fun _ => by omega)) rfl rfl ?_
        refine TrL.op (ok_ldP rfl (fun _ => rfl) rfl) rfl rfl ?_
        refine TrL.op (ok_min rfl (fun _ => rfl) rfl (fun _ => rfl)) rfl rfl ?_
        refine TrL.op (ok_assign rfl (fun _ => rfl)) rfl rfl ?_
        refine TrL.fin ?_
        refine End.blk ?_
        refine End.nxt ?_
        refine Tr.rg ?_
        refine TrL.op (ok_move rfl (fun _ => rfl)) rfl rfl ?_
        refine TrL.op (ok_add rfl (fun _ => rfl) rfl (fun _ => rfl) (fun _ => by omega)) rfl rfl ?_
        refine TrL.op (ok_assign rfl (fun _ => rfl)) rfl rfl ?_
        refine TrL.fin ?_
        exact End.lp (k + 1) ⟨by omega, by omega⟩ (by omega) (Ent.mk (.i rfl (mnK_succ hk1) <| .i rfl (by first | rfl | omega | (simp; done) | (simp; omega) | assumption) <| .k rfl rfl <| .nil) (.nil) rfl)
      · intro h5
        replace h5 := Int.not_lt.1 (of_decide_eq_false h5)
        refine Tr.exit ?_
        refine Exs.thn ?_
        refine Exs.thn ?_
        refine Exs.here ?_
        exact End.cut (k) (by omega) (Ent.mk (.i rfl (by first | rfl | omega | (simp; done) | (simp; omega) | assumption) <| .i rfl (by first | rfl | omega | (simp; done) | (simp; omega) | assumption) <| .k rfl rfl <| .nil) (.nil) rfl)
    · rintro _ rfl
      refine End.norm (S' := [⟨3, true, _, _⟩, ⟨4, true, _, _⟩, ⟨0, true, _, _⟩]) (M' := []) rfl rfl ?_
      refine End.nxt ?_
      refine Tr.seq ?_
      refine Tr.rg ?_
      refine TrL.op (ok_move rfl (fun _ => rfl)) rfl rfl ?_
      refine TrL.op (ok_assign rfl (fun _ => rfl)) rfl rfl ?_
      refine TrL.fin ?_
      refine End.nxt ?_
      refine Tr.ret ?_
      exact Rts.res1 (fn := Try.f52) rfl (.i rfl (by first | rfl | omega | (simp; done) | (simp; omega) | assumption) <| .nil)

end Go.Fl
