/- Laws on walking typed knowledge through code, and contracts. -/
import Derived.Test.YtphkjcmonjbpfaaM3
import Derived.Laws.StructEq
import Derived.OrdersHeld

/- Contracts: the reference: components, errors, directions, strata. -/
namespace Go.Fl
open Go Go.Proofs


set_option maxRecDepth 100000 in
theorem ct_rComponent (o : Ori) (s : Int) (v : Valid o) (hs : Sq o.1.length s) : Ct Try.prog 86 [kRd eO o, kI s] (kRd (eL eI) (compL o s)) := by
  have hv0 := v.pos
  have hv1 := v.len
  have hv2 := v.le
  have hs0 := hs.1
  have hs1 := hs.2
  refine Ct.mk Try.func86 rfl Try.ntmps86 rfl (fun w J => ?_)
  refine Tr.seq ?_
  refine Tr.rg ?_
  refine TrL.new (ok_box 2 rfl (fun _ => rfl) rfl) rfl rfl rfl rfl ?_
  refine TrL.op (ok_assign rfl (fun _ => rfl)) rfl rfl ?_
  refine TrL.fin ?_
  refine End.nxt ?_
  refine Tr.seq ?_
  refine Tr.rg ?_
  refine TrL.op (ok_ldBS rfl (fun _ => rfl)) rfl rfl ?_
  refine TrL.op (ok_call (fun hp => ct_rSize _) (.s rfl (fun _ => rfl) rfl <| .nil)) rfl rfl ?_
  refine TrL.new (ok_makeN eBool 12 rfl (fun _ => rfl) rfl (fun _ => rfl) rfl rfl rfl (fun _ => by omega)) rfl rfl rfl rfl ?_
  refine TrL.op (ok_assign rfl (fun _ => rfl)) rfl rfl ?_
  refine TrL.fin ?_
  refine End.nxt ?_
  refine Tr.seq ?_
  refine Tr.rg ?_
  refine TrL.op (ok_move rfl (fun _ => rfl)) rfl rfl ?_
  refine TrL.op (ok_move rfl (fun _ => rfl)) rfl rfl ?_
  first | refine TrL.op (ok_idxEN rfl (fun _ => rfl) rfl (fun _ => rfl) (fun _ => by omega)) rfl rfl ?_ | refine TrL.op (ok_idxE rfl (fun _ => rfl) rfl (fun _ => rfl) (fun _ => by omega)) rfl rfl ?_
  refine TrL.stE rfl rfl rfl rfl rfl ?_
  refine TrL.fin ?_
  refine End.nxt ?_
  refine Tr.seq ?_
  refine Tr.seq ?_
  refine Tr.rg ?_
  refine TrL.op (ok_assign rfl (fun _ => rfl)) rfl rfl ?_
  refine TrL.fin ?_
  refine End.nxt ?_
  refine Tr.for1 (σ := Nat × List Int) [⟨2, true, _, _⟩, ⟨5, true, _, _⟩] [⟨2, _, _⟩] (fun (r, U) => [⟨6, true, [], kI (r : Int)⟩]) (fun (r, U) => [⟨12, [], cArr false 4 eBool (seenB o.1.length U) o.1.length⟩]) (fun (r, U) => r ≤ o.1.length ∧ RoSt o s U r) (fun (r, U) => r = o.1.length ∧ RoSt o s U r) (fun (r, U) => o.1.length - r) ((0, [s])) ⟨Nat.zero_le _, RoSt.start⟩ (Ent.mk (.i rfl (by first | rfl | omega | (simp; done) | (simp; omega) | assumption) <| .k rfl rfl <| .k rfl rfl <| .nil) (.a (by rw [seenB_nil]; exact seenB_set (S := []) hs.1) (by first | rfl | omega | (simp; done) | (simp; omega) | assumption) <| .k rfl <| .nil) rfl) ?_ ?_
  · rintro ⟨r, U⟩ ⟨hr, hro⟩
    refine Tr.norm (S' := [⟨6, true, _, _⟩, ⟨2, true, _, _⟩, ⟨5, true, _, _⟩]) (M' := [⟨12, _, _⟩, ⟨2, _, _⟩]) rfl rfl ?_
    refine Tr.seq ?_
    refine Tr.seq ?_
    refine Tr.rg ?_
    refine TrL.op (ok_move rfl (fun _ => rfl)) rfl rfl ?_
    refine TrL.op (ok_ldBS rfl (fun _ => rfl)) rfl rfl ?_
    refine TrL.op (ok_call (fun hp => ct_rSize _) (.s rfl (fun _ => rfl) rfl <| .nil)) rfl rfl ?_
    refine TrL.op (ok_lss rfl (fun _ => rfl) rfl (fun _ => rfl)) rfl rfl ?_
    refine TrL.fin ?_
    refine End.nxt ?_
    refine Tr.cnd rfl ?_ ?_
    · intro h4
      replace h4 := of_decide_eq_true h4
      refine Tr.skip ?_
      refine End.nxt ?_
      refine Tr.seq ?_
      refine Tr.blk ?_
      refine Tr.seq ?_
      refine Tr.rg ?_
      refine TrL.op (ok_assign rfl (fun _ => rfl)) rfl rfl ?_
      refine TrL.fin ?_
      refine End.nxt ?_
      refine Tr.for1 (σ := Nat × List Int) [⟨2, true, _, _⟩, ⟨5, true, _, _⟩, ⟨6, true, _, _⟩] [⟨2, _, _⟩] (fun (x, T) => [⟨7, true, [], kI (x : Int)⟩]) (fun (x, T) => [⟨12, [], cArr false 4 eBool (seenB o.1.length T) o.1.length⟩]) (fun (x, T) => x ≤ o.1.length ∧ RnSt o s U T x) (fun (x, T) => RnSt o s U T o.1.length) (fun (x, T) => o.1.length - x) ((0, U)) ⟨Nat.zero_le _, RnSt.start hro.rch⟩ (Ent.mk (.i rfl (by first | rfl | omega | (simp; done) | (simp; omega) | assumption) <| .k rfl rfl <| .k rfl rfl <| .k rfl rfl <| .nil) (.a (by first | rfl | omega | (simp; done) | (simp; omega) | assumption) (by first | rfl | omega | (simp; done) | (simp; omega) | assumption) <| .k rfl <| .nil) rfl) ?_ ?_
      · rintro ⟨x, T⟩ ⟨hx, hrn⟩
        refine Tr.norm (S' := [⟨7, true, _, _⟩, ⟨2, true, _, _⟩, ⟨5, true, _, _⟩, ⟨6, true, _, _⟩]) (M' := [⟨12, _, _⟩, ⟨2, _, _⟩]) rfl rfl ?_
        refine Tr.seq ?_
        refine Tr.seq ?_
        refine Tr.rg ?_
        refine TrL.op (ok_move rfl (fun _ => rfl)) rfl rfl ?_
        refine TrL.op (ok_ldBS rfl (fun _ => rfl)) rfl rfl ?_
        refine TrL.op (ok_call (fun hp => ct_rSize _) (.s rfl (fun _ => rfl) rfl <| .nil)) rfl rfl ?_
        refine TrL.op (ok_lss rfl (fun _ => rfl) rfl (fun _ => rfl)) rfl rfl ?_
        refine TrL.fin ?_
        refine End.nxt ?_
        refine Tr.cnd rfl ?_ ?_
        · intro h7
          replace h7 := of_decide_eq_true h7
          have hsx := nth_seenB (S := T) (show x < o.1.length by omega)
          have a1 := v.ri (i := x) (by omega)
          have a2 := v.ui (i := x) (by omega)
          refine Tr.skip ?_
          refine End.nxt ?_
          refine Tr.seq ?_
          refine Tr.blk ?_
          refine Tr.seq ?_
          refine Tr.rg ?_
          refine TrL.op (ok_move rfl (fun _ => rfl)) rfl rfl ?_
          refine TrL.op (ok_move rfl (fun _ => rfl)) rfl rfl ?_
          first | refine TrL.op (ok_idxEN rfl (fun _ => rfl) rfl (fun _ => rfl) (fun _ => by omega)) rfl rfl ?_ | refine TrL.op (ok_idxE rfl (fun _ => rfl) rfl (fun _ => rfl) (fun _ => by omega)) rfl rfl ?_
          refine TrL.op (ok_ldE rfl (fun _ => rfl) rfl rfl rfl) rfl rfl ?_
          refine TrL.fin ?_
          refine End.nxt ?_
          refine Tr.cnd rfl ?_ ?_
          · intro h9
            rw [hsx] at h9
            have hxm := of_decide_eq_true h9
            refine Tr.drawS 13 12 mixed (by kernel_rfl) ?_
            refine RunS.opA (ok_move rfl (fun _ => rfl)) (by kernel_rfl) rfl rfl ?_
            refine RunS.opA (ok_fldO rfl (fun _ => rfl)) (by kernel_rfl) rfl rfl ?_
            refine RunS.opA (ok_ldB rfl (fun _ => rfl) rfl) (by kernel_rfl) rfl rfl ?_
            refine RunS.opA (ok_move rfl (fun _ => rfl)) (by kernel_rfl) rfl rfl ?_
            first | refine RunS.opA (ok_idxN rfl (fun _ => rfl) rfl (fun _ => rfl) rfl (fun _ => by omega)) (by kernel_rfl) rfl rfl ?_ | refine RunS.opA (ok_idxP rfl (fun _ => rfl) rfl (fun _ => rfl) rfl (fun _ => by omega)) (by kernel_rfl) rfl rfl ?_
            refine RunS.opA (ok_ldP rfl (fun _ => rfl) rfl) (by kernel_rfl) rfl rfl ?_
            refine RunS.op (ok_move rfl (fun _ => rfl)) rfl rfl ?_
            refine RunS.opA (ok_fldO rfl (fun _ => rfl)) (by kernel_rfl) rfl rfl ?_
            refine RunS.opA (ok_ldB rfl (fun _ => rfl) rfl) (by kernel_rfl) rfl rfl ?_
            refine RunS.opA (ok_move rfl (fun _ => rfl)) (by kernel_rfl) rfl rfl ?_
            first | refine RunS.opA (ok_idxN rfl (fun _ => rfl) rfl (fun _ => rfl) rfl (fun _ => by omega)) (by kernel_rfl) rfl rfl ?_ | refine RunS.opA (ok_idxP rfl (fun _ => rfl) rfl (fun _ => rfl) rfl (fun _ => by omega)) (by kernel_rfl) rfl rfl ?_
            refine RunS.opA (ok_ldP rfl (fun _ => rfl) rfl) (by kernel_rfl) rfl rfl ?_
            first | refine RunS.opA (ok_idxEN rfl (fun _ => rfl) rfl (fun _ => rfl) (fun _ => by omega)) (by kernel_rfl) rfl rfl ?_ | refine RunS.opA (ok_idxE rfl (fun _ => rfl) rfl (fun _ => rfl) (fun _ => by omega)) (by kernel_rfl) rfl rfl ?_
            refine RunS.z (st_E rfl rfl rfl rfl rfl) rfl rfl rfl ?_
            first | refine TrL.op (ok_idxEN rfl (fun _ => rfl) rfl (fun _ => rfl) (fun _ => by omega)) rfl rfl ?_ | refine TrL.op (ok_idxE rfl (fun _ => rfl) rfl (fun _ => rfl) (fun _ => by omega)) rfl rfl ?_
            refine TrL.stE rfl rfl rfl rfl rfl ?_
            refine TrL.fin ?_
            refine End.blk ?_
            refine End.nxt ?_
            refine Tr.rg ?_
            refine TrL.op (ok_move rfl (fun _ => rfl)) rfl rfl ?_
            refine TrL.op (ok_add rfl (fun _ => rfl) rfl (fun _ => rfl) (fun _ => by omega)) rfl rfl ?_
            refine TrL.op (ok_assign rfl (fun _ => rfl)) rfl rfl ?_
            refine TrL.fin ?_
            exact End.lp ((x + 1, T ++ [ap o.1 x] ++ [ap o.2 x])) ⟨by omega, hrn.yes v hs hxm⟩ (show o.1.length - (x + 1) < o.1.length - x by omega) (Ent.mk (.i rfl (by first | rfl | omega | (simp; done) | (simp; omega) | assumption) <| .k rfl rfl <| .k rfl rfl <| .k rfl rfl <| .nil) (.a (by rw [seenB_set (x := nth o.1 x) (by omega), seenB_set (x := nth o.2 x) (by omega)]; rfl) (by first | rfl | omega | (simp; done) | (simp; omega) | assumption) <| .k rfl <| .nil) rfl)
          · intro h9
            rw [hsx] at h9
            have hxm := of_decide_eq_false h9
            refine Tr.skip ?_
            refine End.blk ?_
            refine End.nxt ?_
            refine Tr.rg ?_
            refine TrL.op (ok_move rfl (fun _ => rfl)) rfl rfl ?_
            refine TrL.op (ok_add rfl (fun _ => rfl) rfl (fun _ => rfl) (fun _ => by omega)) rfl rfl ?_
            refine TrL.op (ok_assign rfl (fun _ => rfl)) rfl rfl ?_
            refine TrL.fin ?_
            exact End.lp ((x + 1, T)) ⟨by omega, hrn.no hxm⟩ (show o.1.length - (x + 1) < o.1.length - x by omega) (Ent.mk (.i rfl (by first | rfl | omega | (simp; done) | (simp; omega) | assumption) <| .k rfl rfl <| .k rfl rfl <| .k rfl rfl <| .nil) (.a (by first | rfl | omega | (simp; done) | (simp; omega) | assumption) (by first | rfl | omega | (simp; done) | (simp; omega) | assumption) <| .k rfl <| .nil) rfl)
        · intro h7
          replace h7 := Int.not_lt.1 (of_decide_eq_false h7)
          refine Tr.exit ?_
          refine Exs.thn ?_
          refine Exs.thn ?_
          refine Exs.here ?_
          exact End.cut ((x, T)) (by (obtain rfl : x = o.1.length := by omega); exact hrn) (Ent.mk (.i rfl (by first | rfl | omega | (simp; done) | (simp; omega) | assumption) <| .k rfl rfl <| .k rfl rfl <| .k rfl rfl <| .nil) (.a (by first | rfl | omega | (simp; done) | (simp; omega) | assumption) (by first | rfl | omega | (simp; done) | (simp; omega) | assumption) <| .k rfl <| .nil) rfl)
      · rintro ⟨x, T⟩ hrn
        refine End.norm (S' := [⟨7, true, _, _⟩, ⟨2, true, _, _⟩, ⟨5, true, _, _⟩, ⟨6, true, _, _⟩]) (M' := [⟨12, _, _⟩, ⟨2, _, _⟩]) rfl rfl ?_
        refine End.blk ?_
        refine End.nxt ?_
        refine Tr.rg ?_
        refine TrL.op (ok_move rfl (fun _ => rfl)) rfl rfl ?_
        refine TrL.op (ok_add rfl (fun _ => rfl) rfl (fun _ => rfl) (fun _ => by omega)) rfl rfl ?_
        refine TrL.op (ok_assign rfl (fun _ => rfl)) rfl rfl ?_
        refine TrL.fin ?_
        exact End.lp ((r + 1, T)) ⟨by omega, hro.next v hs hrn⟩ (show o.1.length - (r + 1) < o.1.length - r by omega) (Ent.mk (.i rfl (by first | rfl | omega | (simp; done) | (simp; omega) | assumption) <| .k rfl rfl <| .k rfl rfl <| .nil) (.a (by first | rfl | omega | (simp; done) | (simp; omega) | assumption) (by first | rfl | omega | (simp; done) | (simp; omega) | assumption) <| .k rfl <| .nil) rfl)
    · intro h4
      replace h4 := Int.not_lt.1 (of_decide_eq_false h4)
      refine Tr.exit ?_
      refine Exs.thn ?_
      refine Exs.thn ?_
      refine Exs.here ?_
      exact End.cut ((r, U)) ⟨by omega, hro⟩ (Ent.mk (.i rfl (by first | rfl | omega | (simp; done) | (simp; omega) | assumption) <| .k rfl rfl <| .k rfl rfl <| .nil) (.a (by first | rfl | omega | (simp; done) | (simp; omega) | assumption) (by first | rfl | omega | (simp; done) | (simp; omega) | assumption) <| .k rfl <| .nil) rfl)
  · rintro ⟨r, U⟩ ⟨hE0, hro⟩
    refine End.norm (S' := [⟨6, true, _, _⟩, ⟨2, true, _, _⟩, ⟨5, true, _, _⟩]) (M' := [⟨12, _, _⟩, ⟨2, _, _⟩]) rfl rfl ?_
    refine End.nxt ?_
    refine Tr.seq ?_
    refine Tr.rg ?_
    refine TrL.op (ok_assign rfl (fun _ => rfl)) rfl rfl ?_
    refine TrL.fin ?_
    refine End.nxt ?_
    refine Tr.seq ?_
    refine Tr.seq ?_
    refine Tr.rg ?_
    refine TrL.op (ok_assign rfl (fun _ => rfl)) rfl rfl ?_
    refine TrL.fin ?_
    refine End.nxt ?_
    refine Tr.grow (s := 8) rfl rfl 8 rfl 3 eI rfl ?_
    refine Tr.for1 (σ := Nat) [⟨2, true, _, _⟩, ⟨5, true, _, _⟩] [⟨2, _, _⟩, ⟨12, _, _⟩] (fun k => [⟨8, true, [8], kOsl 8 (ascK U k).length⟩, ⟨9, true, [], kI (k : Int)⟩]) (fun k => [⟨8, [], cArr true 3 eI (ascK U k) (ascK U k).length⟩]) (fun k => k ≤ o.1.length) (fun k => k = o.1.length) (fun k => o.1.length - k) (0) (Nat.zero_le _) (Ent.mk (.o rfl (by first | rfl | omega | (simp; done) | (simp; omega) | assumption) rfl <| .i rfl (by first | rfl | omega | (simp; done) | (simp; omega) | assumption) <| .k rfl rfl <| .k rfl rfl <| .nil) (.a (by first | rfl | omega | (simp; done) | (simp; omega) | assumption) (by first | rfl | omega | (simp; done) | (simp; omega) | assumption) <| .k rfl <| .k rfl <| .nil) rfl) ?_ ?_
    · intro k hR2
      refine Tr.norm (S' := [⟨8, true, _, _⟩, ⟨9, true, _, _⟩, ⟨2, true, _, _⟩, ⟨5, true, _, _⟩]) (M' := [⟨8, _, _⟩, ⟨2, _, _⟩, ⟨12, _, _⟩]) rfl rfl ?_
      have hal := ascK_len (l := U) (k := k)
      refine Tr.seq ?_
      refine Tr.seq ?_
      refine Tr.rg ?_
      refine TrL.op (ok_move rfl (fun _ => rfl)) rfl rfl ?_
      refine TrL.op (ok_ldBS rfl (fun _ => rfl)) rfl rfl ?_
      refine TrL.op (ok_call (fun hp => ct_rSize _) (.s rfl (fun _ => rfl) rfl <| .nil)) rfl rfl ?_
      refine TrL.op (ok_lss rfl (fun _ => rfl) rfl (fun _ => rfl)) rfl rfl ?_
      refine TrL.fin ?_
      refine End.nxt ?_
      refine Tr.cnd rfl ?_ ?_
      · intro h13
        replace h13 := of_decide_eq_true h13
        have hsk := nth_seenB (S := U) (show k < o.1.length by omega)
        refine Tr.skip ?_
        refine End.nxt ?_
        refine Tr.seq ?_
        refine Tr.blk ?_
        refine Tr.seq ?_
        refine Tr.rg ?_
        refine TrL.op (ok_move rfl (fun _ => rfl)) rfl rfl ?_
        refine TrL.op (ok_move rfl (fun _ => rfl)) rfl rfl ?_
        first | refine TrL.op (ok_idxEN rfl (fun _ => rfl) rfl (fun _ => rfl) (fun _ => by omega)) rfl rfl ?_ | refine TrL.op (ok_idxE rfl (fun _ => rfl) rfl (fun _ => rfl) (fun _ => by omega)) rfl rfl ?_
        refine TrL.op (ok_ldE rfl (fun _ => rfl) rfl rfl rfl) rfl rfl ?_
        refine TrL.fin ?_
        refine End.nxt ?_
        refine Tr.cnd rfl ?_ ?_
        · intro h15
          rw [hsk] at h15
          have hkm := of_decide_eq_true h15
          refine Tr.rg ?_
          refine TrL.op (ok_move rfl (fun _ => rfl)) rfl rfl ?_
          refine TrL.op (ok_move rfl (fun _ => rfl)) rfl rfl ?_
          refine TrL.new (ok_bsl eI 58 (fun hp => .cons rfl <| .nil) rfl rfl rfl rfl) rfl rfl rfl rfl ?_
          refine TrL.app rfl rfl rfl rfl rfl rfl rfl rfl (by first | omega | (simp only [List.length_cons, List.length_nil]; omega)) (by first | omega | (simp only [List.length_cons, List.length_nil]; omega)) ?_
          refine TrL.norm (S' := [⟨_, _, _, _⟩, ⟨_, _, _, _⟩, ⟨_, _, _, _⟩, ⟨_, _, _, _⟩, ⟨_, _, _, _⟩, ⟨_, _, _, _⟩, ⟨_, _, _, _⟩, ⟨_, _, _, _⟩, ⟨_, _, _, _⟩, ⟨_, _, _, _⟩, ⟨_, _, _, _⟩, ⟨_, _, _, _⟩, ⟨_, _, _, _⟩, ⟨_, _, _, _⟩, ⟨_, _, _, _⟩, ⟨_, _, _, _⟩]) rfl rfl ?_
          refine TrL.op (ok_assign rfl (fun _ => rfl)) rfl rfl ?_
          refine TrL.fin ?_
          refine End.blk ?_
          refine End.nxt ?_
          refine Tr.rg ?_
          refine TrL.op (ok_move rfl (fun _ => rfl)) rfl rfl ?_
          refine TrL.op (ok_add rfl (fun _ => rfl) rfl (fun _ => rfl) (fun _ => by omega)) rfl rfl ?_
          refine TrL.op (ok_assign rfl (fun _ => rfl)) rfl rfl ?_
          refine TrL.fin ?_
          exact End.lp (k + 1) (by first | rfl | omega | (simp; done) | (simp; omega) | assumption) (by omega) (Ent.mk (.o rfl (by rw [ascK_in hkm, List.length_append]) rfl <| .i rfl (by first | rfl | omega | (simp; done) | (simp; omega) | assumption) <| .k rfl rfl <| .k rfl rfl <| .nil) (.a (by rw [ascK_in hkm]) (by rw [ascK_in hkm, List.length_append]) <| .k rfl <| .k rfl <| .nil) rfl)
        · intro h15
          rw [hsk] at h15
          have hkm := of_decide_eq_false h15
          refine Tr.skip ?_
          refine End.blk ?_
          refine End.nxt ?_
          refine Tr.rg ?_
          refine TrL.op (ok_move rfl (fun _ => rfl)) rfl rfl ?_
          refine TrL.op (ok_add rfl (fun _ => rfl) rfl (fun _ => rfl) (fun _ => by omega)) rfl rfl ?_
          refine TrL.op (ok_assign rfl (fun _ => rfl)) rfl rfl ?_
          refine TrL.fin ?_
          exact End.lp (k + 1) (by first | rfl | omega | (simp; done) | (simp; omega) | assumption) (by omega) (Ent.mk (.o rfl (by rw [ascK_out hkm]) rfl <| .i rfl (by first | rfl | omega | (simp; done) | (simp; omega) | assumption) <| .k rfl rfl <| .k rfl rfl <| .nil) (.a (by rw [ascK_out hkm]) (by rw [ascK_out hkm]) <| .k rfl <| .k rfl <| .nil) rfl)
      · intro h13
        replace h13 := Int.not_lt.1 (of_decide_eq_false h13)
        refine Tr.exit ?_
        refine Exs.thn ?_
        refine Exs.thn ?_
        refine Exs.here ?_
        exact End.cut (k) (by omega) (Ent.mk (.o rfl (by first | rfl | omega | (simp; done) | (simp; omega) | assumption) rfl <| .i rfl (by first | rfl | omega | (simp; done) | (simp; omega) | assumption) <| .k rfl rfl <| .k rfl rfl <| .nil) (.a (by first | rfl | omega | (simp; done) | (simp; omega) | assumption) (by first | rfl | omega | (simp; done) | (simp; omega) | assumption) <| .k rfl <| .k rfl <| .nil) rfl)
    · rintro _ rfl
      refine End.norm (S' := [⟨8, true, _, _⟩, ⟨9, true, _, _⟩, ⟨2, true, _, _⟩, ⟨5, true, _, _⟩]) (M' := [⟨8, _, _⟩, ⟨2, _, _⟩, ⟨12, _, _⟩]) rfl rfl ?_
      have hal := ascK_len (l := U) (k := o.1.length)
      refine End.nxt ?_
      refine Tr.seq ?_
      refine Tr.rg ?_
      refine TrL.op (ok_move rfl (fun _ => rfl)) rfl rfl ?_
      refine TrL.op (ok_assign rfl (fun _ => rfl)) rfl rfl ?_
      refine TrL.fin ?_
      refine End.nxt ?_
      refine Tr.frz 8 [4] ⟨rfl, trivial⟩ (by simp only [lenMax]; omega) rfl ?_
      refine Tr.ret ?_
      exact Rts.res1 (fn := Try.f86) rfl (.r rfl (by rw [hE0] at hro; exact hro.fin v hs) <| .nil)

set_option maxRecDepth 100000 in
theorem ct_rComponents (o : Ori) (v : Valid o) : Ct Try.prog 37 [kRd eO o] (kRd (eL (eL eI)) (comps o o.1.length)) := by
  have hv0 := v.pos
  have hv1 := v.len
  have hv2 := v.le
  refine Ct.mk Try.func37 rfl Try.ntmps37 rfl (fun w J => ?_)
  refine Tr.seq ?_
  refine Tr.rg ?_
  refine TrL.new (ok_box 1 rfl (fun _ => rfl) rfl) rfl rfl rfl rfl ?_
  refine TrL.op (ok_assign rfl (fun _ => rfl)) rfl rfl ?_
  refine TrL.fin ?_
  refine End.nxt ?_
  refine Tr.seq ?_
  refine Tr.rg ?_
  refine TrL.op (ok_assign rfl (fun _ => rfl)) rfl rfl ?_
  refine TrL.fin ?_
  refine End.nxt ?_
  refine Tr.seq ?_
  refine Tr.seq ?_
  refine Tr.rg ?_
  refine TrL.op (ok_assign rfl (fun _ => rfl)) rfl rfl ?_
  refine TrL.fin ?_
  refine End.nxt ?_
  refine Tr.grow (s := 3) rfl rfl 3 rfl 22 (eL eI) rfl ?_
  refine Tr.for1 (σ := Nat) [⟨1, true, _, _⟩] [⟨1, _, _⟩] (fun k => [⟨3, true, [3], kOsl 3 (comps o k).length⟩, ⟨4, true, [], kI (k : Int)⟩]) (fun k => [⟨3, [], cArr true 22 (eL eI) (comps o k) (comps o k).length⟩]) (fun k => k ≤ o.1.length) (fun k => k = o.1.length) (fun k => o.1.length - k) (0) (Nat.zero_le _) (Ent.mk (.o rfl (by first | rfl | omega | (simp; done) | (simp; omega) | assumption) rfl <| .i rfl (by first | rfl | omega | (simp; done) | (simp; omega) | assumption) <| .k rfl rfl <| .nil) (.a (by first | rfl | omega | (simp; done) | (simp; omega) | assumption) (by first | rfl | omega | (simp; done) | (simp; omega) | assumption) <| .k rfl <| .nil) rfl) ?_ ?_
  · intro k hR0
    refine Tr.norm (S' := [⟨3, true, _, _⟩, ⟨4, true, _, _⟩, ⟨1, true, _, _⟩]) (M' := [⟨3, _, _⟩, ⟨1, _, _⟩]) rfl rfl ?_
    have hcl := comps_len (o := o) (k := k)
    refine Tr.seq ?_
    refine Tr.seq ?_
    refine Tr.rg ?_
    refine TrL.op (ok_move rfl (fun _ => rfl)) rfl rfl ?_
    refine TrL.op (ok_ldBS rfl (fun _ => rfl)) rfl rfl ?_
    refine TrL.op (ok_call (fun hp => ct_rSize _) (.s rfl (fun _ => rfl) rfl <| .nil)) rfl rfl ?_
    refine TrL.op (ok_lss rfl (fun _ => rfl) rfl (fun _ => rfl)) rfl rfl ?_
    refine TrL.fin ?_
    refine End.nxt ?_
    refine Tr.cnd rfl ?_ ?_
    · intro h3
      replace h3 := of_decide_eq_true h3
      have hk : k < o.1.length := by omega
      have hcp := compL_pos v (Sq.nat hk)
      have hhd := compL_head v hk
      refine Tr.skip ?_
      refine End.nxt ?_
      refine Tr.seq ?_
      refine Tr.blk ?_
      refine Tr.seq ?_
      refine Tr.rg ?_
      refine TrL.op (ok_ldBS rfl (fun _ => rfl)) rfl rfl ?_
      refine TrL.op (ok_move rfl (fun _ => rfl)) rfl rfl ?_
      refine TrL.op (ok_call (fun hp => ct_rComponent _ _ v (Sq.nat hk)) (.s rfl (fun _ => rfl) rfl <| .a rfl (fun _ => rfl) <| .nil)) rfl rfl ?_
      refine TrL.op (ok_assign rfl (fun _ => rfl)) rfl rfl ?_
      refine TrL.fin ?_
      refine End.nxt ?_
      refine Tr.seq ?_
      refine Tr.rg ?_
      refine TrL.op (ok_move rfl (fun _ => rfl)) rfl rfl ?_
      first | refine TrL.op (ok_idxN rfl (fun _ => rfl) rfl (fun _ => rfl) rfl (fun _ => by omega)) rfl rfl ?_ | refine TrL.op (ok_idxP rfl (fun _ => rfl) rfl (fun _ => rfl) rfl (fun _ => by omega)) rfl rfl ?_
      refine TrL.op (ok_ldP rfl (fun _ => rfl) rfl) rfl rfl ?_
      refine TrL.op (ok_move rfl (fun _ => rfl)) rfl rfl ?_
      refine TrL.op (ok_eql rfl (fun _ => rfl) rfl (fun _ => rfl)) rfl rfl ?_
      refine TrL.fin ?_
      refine End.nxt ?_
      refine Tr.cnd rfl ?_ ?_
      · intro h6
        replace h6 := of_decide_eq_true h6
        have hm := hhd.1 h6
        refine Tr.rg ?_
        refine TrL.op (ok_move rfl (fun _ => rfl)) rfl rfl ?_
        refine TrL.op (ok_move rfl (fun _ => rfl)) rfl rfl ?_
        refine TrL.new (ok_bsl (eL eI) 22 (fun hp => .cons rfl <| .nil) rfl rfl rfl rfl) rfl rfl rfl rfl ?_
        refine TrL.app rfl rfl rfl rfl rfl rfl rfl rfl (by first | omega | (simp only [List.length_cons, List.length_nil]; omega)) (by first | omega | (simp only [List.length_cons, List.length_nil]; omega)) ?_
        refine TrL.norm (S' := [⟨_, _, _, _⟩, ⟨_, _, _, _⟩, ⟨_, _, _, _⟩, ⟨_, _, _, _⟩, ⟨_, _, _, _⟩, ⟨_, _, _, _⟩, ⟨_, _, _, _⟩, ⟨_, _, _, _⟩, ⟨_, _, _, _⟩, ⟨_, _, _, _⟩, ⟨_, _, _, _⟩, ⟨_, _, _, _⟩, ⟨_, _, _, _⟩, ⟨_, _, _, _⟩, ⟨_, _, _, _⟩, ⟨_, _, _, _⟩, ⟨_, _, _, _⟩, ⟨_, _, _, _⟩, ⟨_, _, _, _⟩, ⟨_, _, _, _⟩]) rfl rfl ?_
        refine TrL.op (ok_assign rfl (fun _ => rfl)) rfl rfl ?_
        refine TrL.fin ?_
        refine End.blk ?_
        refine End.nxt ?_
        refine Tr.rg ?_
        refine TrL.op (ok_move rfl (fun _ => rfl)) rfl rfl ?_
        refine TrL.op (ok_add rfl (fun _ => rfl) rfl (fun _ => rfl) (fun _ => by omega)) rfl rfl ?_
        refine TrL.op (ok_assign rfl (fun _ => rfl)) rfl rfl ?_
        refine TrL.fin ?_
        exact End.lp (k + 1) (by first | rfl | omega | (simp; done) | (simp; omega) | assumption) (by omega) (Ent.mk (.o rfl (by rw [comps_new hm, List.length_append]) rfl <| .i rfl (by first | rfl | omega | (simp; done) | (simp; omega) | assumption) <| .k rfl rfl <| .nil) (.a (by rw [comps_new hm]) (by rw [comps_new hm, List.length_append]) <| .k rfl <| .nil) rfl)
      · intro h6
        replace h6 := of_decide_eq_false h6
        have hm := Classical.not_not.1 (fun hh => h6 (hhd.2 hh))
        refine Tr.skip ?_
        refine End.blk ?_
        refine End.nxt ?_
        refine Tr.rg ?_
        refine TrL.op (ok_move rfl (fun _ => rfl)) rfl rfl ?_
        refine TrL.op (ok_add rfl (fun _ => rfl) rfl (fun _ => rfl) (fun _ => by omega)) rfl rfl ?_
        refine TrL.op (ok_assign rfl (fun _ => rfl)) rfl rfl ?_
        refine TrL.fin ?_
        exact End.lp (k + 1) (by first | rfl | omega | (simp; done) | (simp; omega) | assumption) (by omega) (Ent.mk (.o rfl (by rw [comps_in hm]) rfl <| .i rfl (by first | rfl | omega | (simp; done) | (simp; omega) | assumption) <| .k rfl rfl <| .nil) (.a (by rw [comps_in hm]) (by rw [comps_in hm]) <| .k rfl <| .nil) rfl)
    · intro h3
      replace h3 := Int.not_lt.1 (of_decide_eq_false h3)
      refine Tr.exit ?_
      refine Exs.thn ?_
      refine Exs.thn ?_
      refine Exs.here ?_
      exact End.cut (k) (by omega) (Ent.mk (.o rfl (by first | rfl | omega | (simp; done) | (simp; omega) | assumption) rfl <| .i rfl (by first | rfl | omega | (simp; done) | (simp; omega) | assumption) <| .k rfl rfl <| .nil) (.a (by first | rfl | omega | (simp; done) | (simp; omega) | assumption) (by first | rfl | omega | (simp; done) | (simp; omega) | assumption) <| .k rfl <| .nil) rfl)
  · rintro _ rfl
    refine End.norm (S' := [⟨3, true, _, _⟩, ⟨4, true, _, _⟩, ⟨1, true, _, _⟩]) (M' := [⟨3, _, _⟩, ⟨1, _, _⟩]) rfl rfl ?_
    have hcl := comps_len (o := o) (k := o.1.length)
    refine End.nxt ?_
    refine Tr.seq ?_
    refine Tr.rg ?_
    refine TrL.op (ok_move rfl (fun _ => rfl)) rfl rfl ?_
    refine TrL.op (ok_assign rfl (fun _ => rfl)) rfl rfl ?_
    refine TrL.fin ?_
    refine End.nxt ?_
    refine Tr.frz 3 [2] ⟨rfl, trivial⟩ (by simp only [lenMax]; omega) rfl ?_
    refine Tr.ret ?_
    exact Rts.res1 (fn := Try.f37) rfl (.r rfl (by first | rfl | omega | (simp; done) | (simp; omega) | assumption) <| .nil)

set_option maxRecDepth 100000 in
theorem ct_rConnected (o : Ori) (v : Valid o) : Ct Try.prog 70 [kRd eO o] (kB (decide ((comps o o.1.length).length = 1))) := by
  refine Ct.mk Try.func70 rfl Try.ntmps70 rfl (fun w J => ?_)
  refine Tr.seq ?_
  refine Tr.rg ?_
  refine TrL.new (ok_box 1 rfl (fun _ => rfl) rfl) rfl rfl rfl rfl ?_
  refine TrL.op (ok_assign rfl (fun _ => rfl)) rfl rfl ?_
  refine TrL.fin ?_
  refine End.nxt ?_
  refine Tr.seq ?_
  refine Tr.rg ?_
  refine TrL.op (ok_ldBS rfl (fun _ => rfl)) rfl rfl ?_
  refine TrL.op (ok_call (fun hp => ct_rComponents _ v) (.s rfl (fun _ => rfl) rfl <| .nil)) rfl rfl ?_
  refine TrL.op (ok_lenJ rfl (fun _ => rfl)) rfl rfl ?_
  refine TrL.op (ok_eql rfl (fun _ => rfl) rfl (fun _ => rfl)) rfl rfl ?_
  refine TrL.op (ok_assign rfl (fun _ => rfl)) rfl rfl ?_
  refine TrL.fin ?_
  refine End.nxt ?_
  refine Tr.ret ?_
  exact Rts.res1 (fn := Try.f70) rfl (.b rfl (by rw [Bool.eq_iff_iff]; simp; omega) <| .nil)

set_option maxRecDepth 100000 in
theorem ct_rCheckOne (o : Ori) : Ct Try.prog 17 [kRd eO o] (kI (chk1 o)) := by
  refine Ct.mk Try.func17 rfl Try.ntmps17 rfl (fun w J => ?_)
  refine Tr.seq ?_
  refine Tr.rg ?_
  refine TrL.new (ok_box 1 rfl (fun _ => rfl) rfl) rfl rfl rfl rfl ?_
  refine TrL.op (ok_assign rfl (fun _ => rfl)) rfl rfl ?_
  refine TrL.fin ?_
  refine End.nxt ?_
  refine Tr.seq ?_
  refine Tr.seq ?_
  refine Tr.rg ?_
  refine TrL.op (ok_ldBS rfl (fun _ => rfl)) rfl rfl ?_
  refine TrL.op (ok_call (fun hp => ct_rCheck _) (.s rfl (fun _ => rfl) rfl <| .nil)) rfl rfl ?_
  refine TrL.op (ok_assign rfl (fun _ => rfl)) rfl rfl ?_
  refine TrL.fin ?_
  refine End.nxt ?_
  refine Tr.seq ?_
  refine Tr.rg ?_
  refine TrL.op (ok_move rfl (fun _ => rfl)) rfl rfl ?_
  refine TrL.op (ok_neq rfl (fun _ => rfl) rfl (fun _ => rfl)) rfl rfl ?_
  refine TrL.fin ?_
  refine End.nxt ?_
  refine Tr.cnd rfl ?_ ?_
  · intro h2
    replace h2 := of_decide_eq_true h2
    refine Tr.seq ?_
    refine Tr.rg ?_
    refine TrL.op (ok_move rfl (fun _ => rfl)) rfl rfl ?_
    refine TrL.op (ok_assign rfl (fun _ => rfl)) rfl rfl ?_
    refine TrL.fin ?_
    refine End.nxt ?_
    refine Tr.ret ?_
    refine Rts.thn ?_
    exact Rts.res1 (fn := Try.f17) rfl (.i rfl (by unfold chk1; rw [orE_l h2]) <| .nil)
  · intro h2
    replace h2 := Classical.not_not.1 (of_decide_eq_false h2)
    have v : Valid o := valid_of h2
    have hcp := comps_pos v
    refine Tr.skip ?_
    refine End.nxt ?_
    refine Tr.seq ?_
    refine Tr.seq ?_
    refine Tr.rg ?_
    refine TrL.op (ok_ldBS rfl (fun _ => rfl)) rfl rfl ?_
    refine TrL.op (ok_call (fun hp => ct_rConnected _ v) (.s rfl (fun _ => rfl) rfl <| .nil)) rfl rfl ?_
    refine TrL.op (ok_not rfl (fun _ => rfl)) rfl rfl ?_
    refine TrL.fin ?_
    refine End.nxt ?_
    refine Tr.cnd rfl ?_ ?_
    · intro h4
      have h4b : (comps o o.1.length).length ≠ 1 := by simpa using h4
      refine Tr.seq ?_
      refine Tr.rg ?_
      refine TrL.op (ok_assign rfl (fun _ => rfl)) rfl rfl ?_
      refine TrL.fin ?_
      refine End.nxt ?_
      refine Tr.ret ?_
      refine Rts.thn ?_
      exact Rts.res1 (fn := Try.f17) rfl (.i rfl (by unfold chk1; rw [orE_r h2, splE_pos (by omega)]) <| .nil)
    · intro h4
      have h4b : (comps o o.1.length).length = 1 := by simpa using h4
      refine Tr.skip ?_
      refine End.nxt ?_
      refine Tr.seq ?_
      refine Tr.rg ?_
      refine TrL.op (ok_assign rfl (fun _ => rfl)) rfl rfl ?_
      refine TrL.fin ?_
      refine End.nxt ?_
      refine Tr.ret ?_
      exact Rts.res1 (fn := Try.f17) rfl (.i rfl (by unfold chk1; rw [orE_r h2, splE_zero (by omega)]) <| .nil)

end Go.Fl

/- The reference's orders. Plain Lean, no program in sight. -/
namespace Go.Fl
def dnT (L : List Int) : Nat → List Int
  | 0 => []
  | j + 1 => dnL L j
def filK (X L : List Int) (k i : Nat) : List Int := X ++ (L.take i).filter (eqB k)
end Go.Fl

/- Contracts: the reference: directions, strata; the law of directions. -/
namespace Go.Fl
open Go Go.Proofs


set_option maxRecDepth 100000 in
theorem ct_rSame (a b : Ori) : Ct Try.prog 20 [kRd eO a, kRd eO b] (kB (decide (a = b))) := by
  refine Ct.mk Try.func20 rfl Try.ntmps20 rfl (fun w J => ?_)
  refine Tr.seq ?_
  refine Tr.rg ?_
  refine TrL.new (ok_box 2 rfl (fun _ => rfl) rfl) rfl rfl rfl rfl ?_
  refine TrL.new (ok_box 3 rfl (fun _ => rfl) rfl) rfl rfl rfl rfl ?_
  refine TrL.op (ok_assign rfl (fun _ => rfl)) rfl rfl ?_
  refine TrL.fin ?_
  refine End.nxt ?_
  refine Tr.seq ?_
  refine Tr.rg ?_
  refine TrL.op (ok_fldO rfl (fun _ => rfl)) rfl rfl ?_
  refine TrL.op (ok_ldB rfl (fun _ => rfl) rfl) rfl rfl ?_
  refine TrL.op (ok_fldO rfl (fun _ => rfl)) rfl rfl ?_
  refine TrL.op (ok_ldB rfl (fun _ => rfl) rfl) rfl rfl ?_
  refine TrL.op (ok_call (fun hp => ct_Ints _ _) (.a rfl (fun _ => rfl) <| .a rfl (fun _ => rfl) <| .nil)) rfl rfl ?_
  refine TrL.op (ok_move rfl (fun _ => rfl)) rfl rfl ?_
  refine TrL.gd rfl rfl rfl (ok_fldO rfl (fun _ => rfl)) rfl rfl ?_
  refine TrL.gd rfl rfl rfl (ok_ldB rfl id rfl) rfl rfl ?_
  refine TrL.gd rfl rfl rfl (ok_fldO rfl (fun _ => rfl)) rfl rfl ?_
  refine TrL.gd rfl rfl rfl (ok_ldB rfl id rfl) rfl rfl ?_
  refine TrL.gd rfl rfl rfl (ok_call (fun hp => ct_Ints _ _) (.a rfl id <| .a rfl id <| .nil)) rfl rfl ?_
  refine TrL.op (ok_and rfl (fun _ => rfl) rfl (fun hp h => gdT2 ((fun _ => rfl) hp) h)) rfl rfl ?_
  refine TrL.op (ok_assign rfl (fun _ => rfl)) rfl rfl ?_
  refine TrL.fin ?_
  refine End.nxt ?_
  refine Tr.ret ?_
  exact Rts.res1 (fn := Try.f20) rfl (.b rfl (by obtain ⟨a1, a2⟩ := a; obtain ⟨b1, b2⟩ := b; simp only [Prod.mk.injEq]; symm; exact Bool.decide_and _ _) <| .nil)

end Go.Fl

/- Errors of maps. Plain Lean, no program in sight. -/
namespace Go.Fl
theorem isMapB_all {a b : Ori} {f : List Int} (h : ∀ x, x < a.1.length → ap f (nth a.1 x) = ap b.1 (nth f x) ∧ ap f (nth a.2 x) = ap b.2 (nth f x)) : isMapB a b f = true := by
  unfold isMapB
  simp only [List.all_eq_true, List.mem_range, Bool.and_eq_true, decide_eq_true_eq]
  exact h
theorem isMapB_not {a b : Ori} {f : List Int} {k : Nat} (hk : k < a.1.length) (h : ¬ (ap f (nth a.1 k) = ap b.1 (nth f k) ∧ ap f (nth a.2 k) = ap b.2 (nth f k))) : isMapB a b f = false := by
  cases hh : isMapB a b f with
  | false => rfl
  | true =>
    unfold isMapB at hh
    simp only [List.all_eq_true, List.mem_range, Bool.and_eq_true, decide_eq_true_eq] at hh
    exact absurd (hh k hk) h
def ontoB (n : Nat) (f : List Int) : Bool := (List.range n).all fun y : Nat => decide ((y : Int) ∈ f)
theorem ontoB_all {n : Nat} {f : List Int} (h : ∀ y : Nat, y < n → (y : Int) ∈ f) : ontoB n f = true := by
  unfold ontoB; rw [List.all_eq_true]
  exact fun y hy => decide_eq_true (h y (List.mem_range.1 hy))
theorem seenB_onto {n : Nat} {f : List Int} : (seenB n f).any (fun x => decide (false = x)) = !ontoB n f := by
  unfold seenB ontoB
  rw [List.any_map]
  induction List.range n with
  | nil => rfl
  | cons y l ih =>
    simp only [List.any_cons, List.all_cons, Function.comp_apply, ih]
    by_cases h : (y : Int) ∈ f <;> simp [h]
def cmE (a b : Ori) (f : List Int) (same : Bool) : Int :=
  orE (chkO a) (orE (chkO b) (if f.length ≠ a.1.length ∨ (same = true ∧ a.1.length ≠ b.1.length) then 10 else if ¬ inR f b.1.length then 2 else if isMapB a b f = true ∧ ontoB b.1.length f = true then 0 else 18))
theorem shp2 {f a b : Nat} {same : Bool} : (decide ((f : Int) ≠ a) || (same && decide ((f : Int) ≠ b))) = decide (f ≠ a ∨ (same = true ∧ a ≠ b)) := by
  rw [Bool.eq_iff_iff]; cases same <;> simp <;> omega
section
variable {a b : Ori} {f : List Int} {same : Bool}
theorem cmE_a (h : chkO a ≠ 0) : cmE a b f same = chkO a := orE_l h
theorem cmE_b (h : chkO a = 0) (h2 : chkO b ≠ 0) : cmE a b f same = chkO b := (orE_r h).trans (orE_l h2)
theorem cmE_s (h : chkO a = 0) (h2 : chkO b = 0) (h3 : f.length ≠ a.1.length ∨ (same = true ∧ a.1.length ≠ b.1.length)) : cmE a b f same = 10 := by unfold cmE; rw [orE_r h, orE_r h2, if_pos h3]
theorem cmE_r (h : chkO a = 0) (h2 : chkO b = 0) (h3 : ¬ (f.length ≠ a.1.length ∨ (same = true ∧ a.1.length ≠ b.1.length))) {k : Nat} (hk : k < f.length) (h4 : ¬ (0 ≤ nth f k ∧ nth f k < b.1.length)) : cmE a b f same = 2 := by
  unfold cmE; rw [orE_r h, orE_r h2, if_neg h3, if_pos fun hh => h4 (hh k hk)]
theorem cmE_m (h : chkO a = 0) (h2 : chkO b = 0) (h3 : ¬ (f.length ≠ a.1.length ∨ (same = true ∧ a.1.length ≠ b.1.length))) (h4 : inR f b.1.length) : cmE a b f same = if isMapB a b f = true ∧ ontoB b.1.length f = true then 0 else 18 := by
  unfold cmE; rw [orE_r h, orE_r h2, if_neg h3, if_neg (fun hh => hh h4)]
theorem cmE_p (h : chkO a = 0) (h2 : chkO b = 0) (h3 : ¬ (f.length ≠ a.1.length ∨ (same = true ∧ a.1.length ≠ b.1.length))) (h4 : inR f b.1.length) (h5 : isMapB a b f = false ∨ ontoB b.1.length f = false) : cmE a b f same = 18 := by
  rw [cmE_m h h2 h3 h4, if_neg]
  rintro ⟨h6, h7⟩
  rcases h5 with h5 | h5
  · rw [h5] at h6; cases h6
  · rw [h5] at h7; cases h7
theorem cmE_0 (h : chkO a = 0) (h2 : chkO b = 0) (h3 : ¬ (f.length ≠ a.1.length ∨ (same = true ∧ a.1.length ≠ b.1.length))) (h4 : inR f b.1.length) (h5 : isMapB a b f = true) (h6 : ontoB b.1.length f = true) : cmE a b f same = 0 := by
  rw [cmE_m h h2 h3 h4, if_pos ⟨h5, h6⟩]
end
theorem cm2 {a b : Ori} {f : List Int} {same : Bool} {k : Nat} (hk : k < 2) (hp : 0 < k → chkO a = 0) (h : chkO (nth [a, b] k) ≠ 0) : chkO (nth [a, b] k) = cmE a b f same := by
  rcases k with _ | _ | k
  · exact (cmE_a h).symm
  · exact (cmE_b (hp (by omega)) h).symm
  · omega
end Go.Fl

/- Contracts: maps that are checked; the law of proofs. -/
namespace Go.Fl
open Go Go.Proofs

set_option maxRecDepth 100000 in
theorem ct_IndexB (xs : List Bool) (v : Bool) : Ct Try.prog 130 [kRd (eL eBool) xs, kB v] (kI (idxF (fun x => decide (v = x)) xs)) := by
  refine Ct.mk Try.func130 rfl Try.ntmps130 rfl (fun w J => ?_)
  refine Tr.fact (s := 0) rfl (fun _ _ h => lenB h) (fun hb => ?_)
  refine Tr.seq ?_
  refine Tr.rg ?_
  refine TrL.op (ok_assign rfl (fun _ => rfl)) rfl rfl ?_
  refine TrL.fin ?_
  refine End.nxt ?_
  refine Tr.seq ?_
  refine Tr.seq ?_
  refine Tr.rg ?_
  refine TrL.op (ok_move rfl (fun _ => rfl)) rfl rfl ?_
  refine TrL.op (ok_lenJ rfl (fun _ => rfl)) rfl rfl ?_
  refine TrL.op (ok_move rfl (fun _ => rfl)) rfl rfl ?_
  refine TrL.fin ?_
  refine End.nxt ?_
  refine Tr.for1 (σ := Nat) [⟨0, true, _, _⟩, ⟨1, true, _, _⟩, ⟨7, true, _, _⟩] [] (fun k => [⟨8, true, [], kI (k : Int)⟩]) (fun k => []) (fun k => k ≤ xs.length ∧ ∀ i, i < k → (fun x => decide (v = x)) (nth xs i) = false) (fun k => ∀ i, i < xs.length → (fun x => decide (v = x)) (nth xs i) = false) (fun k => xs.length - k) (0) ⟨Nat.zero_le _, fun i h => absurd h (by omega)⟩ (Ent.mk (.i rfl (by first | rfl | omega | (simp; done) | (simp; omega) | assumption) <| .k rfl rfl <| .k rfl rfl <| .k rfl rfl <| .nil) (.nil) rfl) ?_ ?_
  · rintro k ⟨hk0, hR0⟩
    refine Tr.norm (S' := [⟨8, true, _, _⟩, ⟨0, true, _, _⟩, ⟨1, true, _, _⟩, ⟨7, true, _, _⟩]) (M' := []) rfl rfl ?_
    refine Tr.seq ?_
    refine Tr.rg ?_
    refine TrL.op (ok_lss rfl (fun _ => rfl) rfl (fun _ => rfl)) rfl rfl ?_
    refine TrL.fin ?_
    refine End.nxt ?_
    refine Tr.seq ?_
    refine Tr.cnd rfl ?_ ?_
    · intro h2
      replace h2 := of_decide_eq_true h2
      refine Tr.skip ?_
      refine End.nxt ?_
      refine Tr.seq ?_
      refine Tr.blk ?_
      refine Tr.seq ?_
      refine Tr.rg ?_
      refine TrL.op (ok_move rfl (fun _ => rfl)) rfl rfl ?_
      refine TrL.op (ok_assign rfl (fun _ => rfl)) rfl rfl ?_
      refine TrL.fin ?_
      refine End.nxt ?_
      refine Tr.seq ?_
      refine Tr.rg ?_
      refine TrL.op (ok_move rfl (fun _ => rfl)) rfl rfl ?_
      refine TrL.op (ok_move rfl (fun _ => rfl)) rfl rfl ?_
      refine TrL.op (ok_move rfl (fun _ => rfl)) rfl rfl ?_
      first | refine TrL.op (ok_idxN rfl (fun _ => rfl) rfl (fun _ => rfl) rfl (fun _ => by omega)) rfl rfl ?_ | refine TrL.op (ok_idxP rfl (fun _ => rfl) rfl (fun _ => rfl) rfl (fun _ => by omega)) rfl rfl ?_
      refine TrL.op (ok_ldP rfl (fun _ => rfl) rfl) rfl rfl ?_
      refine TrL.op (ok_eqlB rfl (fun _ => rfl) rfl (fun _ => rfl)) rfl rfl ?_
      refine TrL.fin ?_
      refine End.nxt ?_
      refine Tr.cnd rfl ?_ ?_
      · intro h4
        refine Tr.seq ?_
        refine Tr.rg ?_
        refine TrL.op (ok_move rfl (fun _ => rfl)) rfl rfl ?_
        refine TrL.op (ok_assign rfl (fun _ => rfl)) rfl rfl ?_
        refine TrL.fin ?_
        refine End.nxt ?_
        refine Tr.ret ?_
        refine Rts.out ?_
        refine Rts.thn ?_
        refine Rts.thn ?_
        refine Rts.out ?_
        refine Rts.thn ?_
        refine Rts.thn ?_
        exact Rts.res1 (fn := Try.f130) rfl (.i rfl (idxF_at (q := fun x => decide (v = x)) (by omega) hR0 h4) <| .nil)
      · intro h4
        refine Tr.skip ?_
        refine End.blk ?_
        refine End.nxt ?_
        refine Tr.rg ?_
        refine TrL.op (ok_add rfl (fun _ => rfl) rfl (fun _ => rfl) (fun _ => by omega)) rfl rfl ?_
        refine TrL.op (ok_move rfl (fun _ => rfl)) rfl rfl ?_
        refine TrL.fin ?_
        exact End.lp (k + 1) ⟨by omega, all_succ hR0 h4⟩ (by omega) (Ent.mk (.i rfl (by first | rfl | omega | (simp; done) | (simp; omega) | assumption) <| .k rfl rfl <| .k rfl rfl <| .k rfl rfl <| .nil) (.nil) rfl)
    · intro h2
      replace h2 := Int.not_lt.1 (of_decide_eq_false h2)
      refine Tr.exit ?_
      refine Exs.thn ?_
      refine Exs.thn ?_
      refine Exs.here ?_
      exact End.cut (k) (fun i hi => hR0 i (by omega)) (Ent.mk (.i rfl (by first | rfl | omega | (simp; done) | (simp; omega) | assumption) <| .k rfl rfl <| .k rfl rfl <| .k rfl rfl <| .nil) (.nil) rfl)
  · intro k hE0
    refine End.norm (S' := [⟨8, true, _, _⟩, ⟨0, true, _, _⟩, ⟨1, true, _, _⟩, ⟨7, true, _, _⟩]) (M' := []) rfl rfl ?_
    refine End.nxt ?_
    refine Tr.seq ?_
    refine Tr.rg ?_
    refine TrL.op (ok_assign rfl (fun _ => rfl)) rfl rfl ?_
    refine TrL.fin ?_
    refine End.nxt ?_
    refine Tr.ret ?_
    exact Rts.res1 (fn := Try.f130) rfl (.i rfl (idxF_none (q := fun x => decide (v = x)) hE0) <| .nil)

set_option maxRecDepth 100000 in
theorem ct_ContainsB (xs : List Bool) (v : Bool) : Ct Try.prog 119 [kRd (eL eBool) xs, kB v] (kB (xs.any fun x => decide (v = x))) := by
  refine Ct.mk Try.func119 rfl Try.ntmps119 rfl (fun w J => ?_)
  refine Tr.seq ?_
  refine Tr.rg ?_
  refine TrL.op (ok_assign rfl (fun _ => rfl)) rfl rfl ?_
  refine TrL.fin ?_
  refine End.nxt ?_
  refine Tr.seq ?_
  refine Tr.rg ?_
  refine TrL.op (ok_move rfl (fun _ => rfl)) rfl rfl ?_
  refine TrL.op (ok_move rfl (fun _ => rfl)) rfl rfl ?_
  refine TrL.op (ok_call (fun hp => ct_IndexB _ _) (.a rfl (fun _ => rfl) <| .a rfl (fun _ => rfl) <| .nil)) rfl rfl ?_
  refine TrL.op (ok_geq rfl (fun _ => rfl) rfl (fun _ => rfl)) rfl rfl ?_
  refine TrL.op (ok_assign rfl (fun _ => rfl)) rfl rfl ?_
  refine TrL.fin ?_
  refine End.nxt ?_
  refine Tr.ret ?_
  exact Rts.res1 (fn := Try.f119) rfl (.b rfl idxF_nonneg <| .nil)

set_option maxRecDepth 100000 in
set_option maxHeartbeats 1000000 in
theorem ct_rIsMap (a b : Ori) (f : List Int) (va : Valid a) (vb : Valid b) (hl : f.length = a.1.length) (hr : inR f b.1.length) : Ct Try.prog 93 [kRd eO a, kRd eO b, kRd (eL eI) f] (kB (isMapB a b f)) := by
  have hva := va.len
  have hvb := vb.len
  have hvl := va.le
  refine Ct.mk Try.func93 rfl Try.ntmps93 rfl (fun w J => ?_)
  refine Tr.seq ?_
  refine Tr.rg ?_
  refine TrL.new (ok_box 3 rfl (fun _ => rfl) rfl) rfl rfl rfl rfl ?_
  refine TrL.new (ok_box 4 rfl (fun _ => rfl) rfl) rfl rfl rfl rfl ?_
  refine TrL.op (ok_assign rfl (fun _ => rfl)) rfl rfl ?_
  refine TrL.fin ?_
  refine End.nxt ?_
  refine Tr.seq ?_
  refine Tr.seq ?_
  refine Tr.rg ?_
  refine TrL.op (ok_assign rfl (fun _ => rfl)) rfl rfl ?_
  refine TrL.fin ?_
  refine End.nxt ?_
  refine Tr.for1 (σ := Nat) [⟨2, true, _, _⟩, ⟨3, true, _, _⟩, ⟨4, true, _, _⟩] [⟨3, _, _⟩, ⟨4, _, _⟩] (fun k => [⟨7, true, [], kI (k : Int)⟩]) (fun k => []) (fun k => k ≤ a.1.length ∧ ∀ i, i < k → (ap f (nth a.1 i) = ap b.1 (nth f i) ∧ ap f (nth a.2 i) = ap b.2 (nth f i))) (fun k => ∀ i, i < a.1.length → (ap f (nth a.1 i) = ap b.1 (nth f i) ∧ ap f (nth a.2 i) = ap b.2 (nth f i))) (fun k => a.1.length - k) (0) ⟨Nat.zero_le _, fun i h => absurd h (by omega)⟩ (Ent.mk (.i rfl (by first | rfl | omega | (simp; done) | (simp; omega) | assumption) <| .k rfl rfl <| .k rfl rfl <| .k rfl rfl <| .nil) (.k rfl <| .k rfl <| .nil) rfl) ?_ ?_
  · rintro k ⟨hk0, hR0⟩
    refine Tr.norm (S' := [⟨7, true, _, _⟩, ⟨2, true, _, _⟩, ⟨3, true, _, _⟩, ⟨4, true, _, _⟩]) (M' := [⟨3, _, _⟩, ⟨4, _, _⟩]) rfl rfl ?_
    refine Tr.seq ?_
    refine Tr.seq ?_
    refine Tr.rg ?_
    refine TrL.op (ok_move rfl (fun _ => rfl)) rfl rfl ?_
    refine TrL.op (ok_ldBS rfl (fun _ => rfl)) rfl rfl ?_
    refine TrL.op (ok_call (fun hp => ct_rSize _) (.s rfl (fun _ => rfl) rfl <| .nil)) rfl rfl ?_
    refine TrL.op (ok_lss rfl (fun _ => rfl) rfl (fun _ => rfl)) rfl rfl ?_
    refine TrL.fin ?_
    refine End.nxt ?_
    refine Tr.cnd rfl ?_ ?_
    · intro h2
      replace h2 := of_decide_eq_true h2
      refine Tr.skip ?_
      refine End.nxt ?_
      refine Tr.seq ?_
      refine Tr.blk ?_
      refine Tr.seq ?_
      refine Tr.draw 34 mixed (by kernel_rfl) ?_
      have a1 := va.ri (i := k) (by omega)
      have a2 := va.ui (i := k) (by omega)
      have a3 := hr k (by omega)
      have a4 := hr (nth a.1 k).toNat (by omega)
      have a5 := hr (nth a.2 k).toNat (by omega)
      refine RunD.op (ok_move rfl (fun _ => rfl)) rfl rfl ?_
      refine RunD.op (ok_fldO rfl (fun _ => rfl)) rfl rfl ?_
      refine RunD.op (ok_ldB rfl (fun _ => rfl) rfl) rfl rfl ?_
      refine RunD.op (ok_move rfl (fun _ => rfl)) rfl rfl ?_
      first | refine RunD.op (ok_idxN rfl (fun _ => rfl) rfl (fun _ => rfl) rfl (fun _ => by omega)) rfl rfl ?_ | refine RunD.op (ok_idxP rfl (fun _ => rfl) rfl (fun _ => rfl) rfl (fun _ => by omega)) rfl rfl ?_
      refine RunD.op (ok_ldP rfl (fun _ => rfl) rfl) rfl rfl ?_
      first | refine RunD.op (ok_idxN rfl (fun _ => rfl) rfl (fun _ => rfl) rfl (fun _ => by omega)) rfl rfl ?_ | refine RunD.op (ok_idxP rfl (fun _ => rfl) rfl (fun _ => rfl) rfl (fun _ => by omega)) rfl rfl ?_
      refine RunD.op (ok_ldP rfl (fun _ => rfl) rfl) rfl rfl ?_
      refine RunD.op (ok_fldO rfl (fun _ => rfl)) rfl rfl ?_
      refine RunD.op (ok_ldB rfl (fun _ => rfl) rfl) rfl rfl ?_
      refine RunD.op (ok_move rfl (fun _ => rfl)) rfl rfl ?_
      refine RunD.op (ok_move rfl (fun _ => rfl)) rfl rfl ?_
      first | refine RunD.op (ok_idxN rfl (fun _ => rfl) rfl (fun _ => rfl) rfl (fun _ => by omega)) rfl rfl ?_ | refine RunD.op (ok_idxP rfl (fun _ => rfl) rfl (fun _ => rfl) rfl (fun _ => by omega)) rfl rfl ?_
      refine RunD.op (ok_ldP rfl (fun _ => rfl) rfl) rfl rfl ?_
      first | refine RunD.op (ok_idxN rfl (fun _ => rfl) rfl (fun _ => rfl) rfl (fun _ => by omega)) rfl rfl ?_ | refine RunD.op (ok_idxP rfl (fun _ => rfl) rfl (fun _ => rfl) rfl (fun _ => by omega)) rfl rfl ?_
      refine RunD.op (ok_ldP rfl (fun _ => rfl) rfl) rfl rfl ?_
      refine RunD.op (ok_neq rfl (fun _ => rfl) rfl (fun _ => rfl)) rfl rfl ?_
      refine RunD.op (ok_move rfl (fun _ => rfl)) rfl rfl ?_
      refine RunD.gd rfl rfl rfl (ok_move rfl (fun _ => rfl)) rfl rfl ?_
      refine RunD.gd rfl rfl rfl (ok_fldO rfl (fun _ => rfl)) rfl rfl ?_
      refine RunD.gd rfl rfl rfl (ok_ldB rfl id rfl) rfl rfl ?_
      refine RunD.gd rfl rfl rfl (ok_move rfl (fun _ => rfl)) rfl rfl ?_
      first | refine RunD.gd rfl rfl rfl (ok_idxN rfl id rfl id rfl (fun hp => by simp at hp; omega)) rfl rfl ?_ | refine RunD.gd rfl rfl rfl (ok_idxP rfl id rfl id rfl (fun hp => by simp at hp; omega)) rfl rfl ?_
      refine RunD.gd rfl rfl rfl (ok_ldP rfl id rfl) rfl rfl ?_
      first | refine RunD.gd rfl rfl rfl (ok_idxN rfl id rfl id rfl (fun hp => by simp at hp; omega)) rfl rfl ?_ | refine RunD.gd rfl rfl rfl (ok_idxP rfl id rfl id rfl (fun hp => by simp at hp; omega)) rfl rfl ?_
      refine RunD.gd rfl rfl rfl (ok_ldP rfl id rfl) rfl rfl ?_
      refine RunD.gd rfl rfl rfl (ok_fldO rfl (fun _ => rfl)) rfl rfl ?_
      refine RunD.gd rfl rfl rfl (ok_ldB rfl id rfl) rfl rfl ?_
      refine RunD.gd rfl rfl rfl (ok_move rfl (fun _ => rfl)) rfl rfl ?_
      refine RunD.gd rfl rfl rfl (ok_move rfl (fun _ => rfl)) rfl rfl ?_
      first | refine RunD.gd rfl rfl rfl (ok_idxN rfl id rfl id rfl (fun hp => by simp at hp; omega)) rfl rfl ?_ | refine RunD.gd rfl rfl rfl (ok_idxP rfl id rfl id rfl (fun hp => by simp at hp; omega)) rfl rfl ?_
      refine RunD.gd rfl rfl rfl (ok_ldP rfl id rfl) rfl rfl ?_
      first | refine RunD.gd rfl rfl rfl (ok_idxN rfl id rfl id rfl (fun hp => by simp at hp; omega)) rfl rfl ?_ | refine RunD.gd rfl rfl rfl (ok_idxP rfl id rfl id rfl (fun hp => by simp at hp; omega)) rfl rfl ?_
      refine RunD.gd rfl rfl rfl (ok_ldP rfl id rfl) rfl rfl ?_
      refine RunD.z ?_
      refine TrL.gd rfl rfl rfl (ok_neq rfl id rfl id) rfl rfl ?_
      refine TrL.op (ok_or rfl (fun _ => rfl) rfl (fun hp h => gdF2 ((fun _ => rfl) hp) h)) rfl rfl ?_
      refine TrL.fin ?_
      refine End.nxt ?_
      refine Tr.cnd rfl ?_ ?_
      · intro h4
        refine Tr.seq ?_
        refine Tr.rg ?_
        refine TrL.op (ok_assign rfl (fun _ => rfl)) rfl rfl ?_
        refine TrL.fin ?_
        refine End.nxt ?_
        refine Tr.ret ?_
        refine Rts.out ?_
        refine Rts.thn ?_
        refine Rts.thn ?_
        refine Rts.out ?_
        refine Rts.thn ?_
        refine Rts.thn ?_
        exact Rts.res1 (fn := Try.f93) rfl (.b rfl (isMapB_not (k := k) (by omega) (by unfold ap; simp at h4; intro hh; rcases h4 with h | h; exact h hh.1; exact h hh.2)).symm <| .nil)
      · intro h4
        refine Tr.skip ?_
        refine End.blk ?_
        refine End.nxt ?_
        refine Tr.rg ?_
        refine TrL.op (ok_move rfl (fun _ => rfl)) rfl rfl ?_
        refine TrL.op (ok_add rfl (fun _ => rfl) rfl (fun _ => rfl) (fun _ => by omega)) rfl rfl ?_
        refine TrL.op (ok_assign rfl (fun _ => rfl)) rfl rfl ?_
        refine TrL.fin ?_
        exact End.lp (k + 1) ⟨by omega, all_succ hR0 (by unfold ap; simp at h4; exact h4)⟩ (by omega) (Ent.mk (.i rfl (by first | rfl | omega | (simp; done) | (simp; omega) | assumption) <| .k rfl rfl <| .k rfl rfl <| .k rfl rfl <| .nil) (.k rfl <| .k rfl <| .nil) rfl)
    · intro h2
      replace h2 := Int.not_lt.1 (of_decide_eq_false h2)
      refine Tr.exit ?_
      refine Exs.thn ?_
      refine Exs.thn ?_
      refine Exs.here ?_
      exact End.cut (k) (fun i hi => hR0 i (by omega)) (Ent.mk (.i rfl (by first | rfl | omega | (simp; done) | (simp; omega) | assumption) <| .k rfl rfl <| .k rfl rfl <| .k rfl rfl <| .nil) (.k rfl <| .k rfl <| .nil) rfl)
  · intro k hE0
    refine End.norm (S' := [⟨7, true, _, _⟩, ⟨2, true, _, _⟩, ⟨3, true, _, _⟩, ⟨4, true, _, _⟩]) (M' := [⟨3, _, _⟩, ⟨4, _, _⟩]) rfl rfl ?_
    refine End.nxt ?_
    refine Tr.seq ?_
    refine Tr.rg ?_
    refine TrL.op (ok_assign rfl (fun _ => rfl)) rfl rfl ?_
    refine TrL.fin ?_
    refine End.nxt ?_
    refine Tr.ret ?_
    exact Rts.res1 (fn := Try.f93) rfl (.b rfl (isMapB_all hE0).symm <| .nil)

set_option maxRecDepth 100000 in
set_option maxHeartbeats 1000000 in
theorem ct_oCheckMap (a b : Ori) (f : List Int) (same : Bool) : Ct Try.prog 92 [kRd eO a, kRd eO b, kRd (eL eI) f, kB same] (kI (cmE a b f same)) := by
  refine Ct.mk Try.func92 rfl Try.ntmps92 rfl (fun w J => ?_)
  refine Tr.fact (s := 2) rfl (fun _ _ h => lenB h) (fun hb => ?_)
  refine Tr.seq ?_
  refine Tr.rg ?_
  refine TrL.new (ok_box 4 rfl (fun _ => rfl) rfl) rfl rfl rfl rfl ?_
  refine TrL.new (ok_box 5 rfl (fun _ => rfl) rfl) rfl rfl rfl rfl ?_
  refine TrL.op (ok_assign rfl (fun _ => rfl)) rfl rfl ?_
  refine TrL.fin ?_
  refine End.nxt ?_
  refine Tr.seq ?_
  refine Tr.seq ?_
  refine Tr.rg ?_
  refine TrL.op (ok_ldBS rfl (fun _ => rfl)) rfl rfl ?_
  refine TrL.op (ok_ldBS rfl (fun _ => rfl)) rfl rfl ?_
  refine TrL.op (ok_buildL [(0, 2), (2, 2)] rfl (fun hp => .cons rfl rfl rfl <| .cons rfl rfl rfl <| .nil)) rfl rfl ?_
  refine TrL.op (ok_move rfl (fun _ => rfl)) rfl rfl ?_
  refine TrL.fin ?_
  refine End.nxt ?_
  refine Tr.for1 (σ := Nat) [⟨2, true, _, _⟩, ⟨3, true, _, _⟩, ⟨4, true, _, _⟩, ⟨5, true, _, _⟩, ⟨19, true, _, _⟩] [⟨4, _, _⟩, ⟨5, _, _⟩] (fun k => [⟨20, true, [], kI (k : Int)⟩]) (fun k => []) (fun k => k ≤ 2 ∧ (0 < k → chkO a = 0) ∧ (1 < k → chkO b = 0)) (fun k => chkO a = 0 ∧ chkO b = 0) (fun k => 2 - k) (0) ⟨by omega, fun h => absurd h (by omega), fun h => absurd h (by omega)⟩ (Ent.mk (.i rfl (by first | rfl | omega | (simp; done) | (simp; omega) | assumption) <| .k rfl rfl <| .k rfl rfl <| .k rfl rfl <| .k rfl rfl <| .k rfl rfl <| .nil) (.k rfl <| .k rfl <| .nil) rfl) ?_ ?_
  · rintro k ⟨hk, hp, hq⟩
    refine Tr.norm (S' := [⟨20, true, _, _⟩, ⟨2, true, _, _⟩, ⟨3, true, _, _⟩, ⟨4, true, _, _⟩, ⟨5, true, _, _⟩, ⟨19, true, _, _⟩]) (M' := [⟨4, _, _⟩, ⟨5, _, _⟩]) rfl rfl ?_
    refine Tr.seq ?_
    refine Tr.rg ?_
    refine TrL.op (ok_lss rfl (fun _ => rfl) rfl (fun _ => rfl)) rfl rfl ?_
    refine TrL.fin ?_
    refine End.nxt ?_
    refine Tr.seq ?_
    refine Tr.cnd rfl ?_ ?_
    · intro h2
      replace h2 := of_decide_eq_true h2
      refine Tr.skip ?_
      refine End.nxt ?_
      refine Tr.seq ?_
      refine Tr.blk ?_
      refine Tr.seq ?_
      refine Tr.rg ?_
      refine TrL.op (ok_idxAA eO rfl (fun _ => rfl) rfl (fun _ => rfl) rfl rfl rfl (fun _ => ⟨by omega, by simp; omega⟩)) rfl rfl ?_
      refine TrL.new (ok_alloc 10) rfl rfl rfl rfl ?_
      refine TrL.stB rfl rfl rfl rfl ?_
      refine TrL.fin ?_
      refine End.nxt ?_
      refine Tr.seq ?_
      refine Tr.rg ?_
      refine TrL.op (ok_ldBS rfl (fun _ => rfl)) rfl rfl ?_
      refine TrL.op (ok_call (fun hp => ct_oCheck _) (.s rfl (fun _ => rfl) rfl <| .nil)) rfl rfl ?_
      refine TrL.op (ok_assign rfl (fun _ => rfl)) rfl rfl ?_
      refine TrL.fin ?_
      refine End.nxt ?_
      refine Tr.seq ?_
      refine Tr.rg ?_
      refine TrL.op (ok_move rfl (fun _ => rfl)) rfl rfl ?_
      refine TrL.op (ok_neq rfl (fun _ => rfl) rfl (fun _ => rfl)) rfl rfl ?_
      refine TrL.fin ?_
      refine End.nxt ?_
      refine Tr.cnd rfl ?_ ?_
      · intro h5
        replace h5 := of_decide_eq_true h5
        refine Tr.seq ?_
        refine Tr.rg ?_
        refine TrL.op (ok_move rfl (fun _ => rfl)) rfl rfl ?_
        refine TrL.op (ok_assign rfl (fun _ => rfl)) rfl rfl ?_
        refine TrL.fin ?_
        refine End.nxt ?_
        refine Tr.ret ?_
        refine Rts.out ?_
        refine Rts.thn ?_
        refine Rts.thn ?_
        refine Rts.out ?_
        refine Rts.thn ?_
        refine Rts.thn ?_
        exact Rts.res1 (fn := Try.f92) rfl (.i rfl (cm2 (by omega) hp h5) <| .nil)
      · intro h5
        replace h5 := Classical.not_not.1 (of_decide_eq_false h5)
        refine Tr.skip ?_
        refine End.blk ?_
        refine End.nxt ?_
        refine Tr.rg ?_
        refine TrL.op (ok_add rfl (fun _ => rfl) rfl (fun _ => rfl) (fun _ => by omega)) rfl rfl ?_
        refine TrL.op (ok_move rfl (fun _ => rfl)) rfl rfl ?_
        refine TrL.fin ?_
        exact End.lp (k + 1) ⟨by omega, fun _ => by (rcases k with _ | k; exact h5; exact hp (by omega)), fun _ => by (rcases k with _ | _ | k; omega; exact h5; exact hq (by omega))⟩ (by omega) (Ent.mk (.i rfl (by first | rfl | omega | (simp; done) | (simp; omega) | assumption) <| .k rfl rfl <| .k rfl rfl <| .k rfl rfl <| .k rfl rfl <| .k rfl rfl <| .nil) (.k rfl <| .k rfl <| .nil) rfl)
    · intro h2
      replace h2 := Int.not_lt.1 (of_decide_eq_false h2)
      refine Tr.exit ?_
      refine Exs.thn ?_
      refine Exs.thn ?_
      refine Exs.here ?_
      exact End.cut (k) ⟨hp (by omega), hq (by omega)⟩ (Ent.mk (.i rfl (by first | rfl | omega | (simp; done) | (simp; omega) | assumption) <| .k rfl rfl <| .k rfl rfl <| .k rfl rfl <| .k rfl rfl <| .k rfl rfl <| .nil) (.k rfl <| .k rfl <| .nil) rfl)
  · rintro k ⟨ha, hbb⟩
    refine End.norm (S' := [⟨20, true, _, _⟩, ⟨2, true, _, _⟩, ⟨3, true, _, _⟩, ⟨4, true, _, _⟩, ⟨5, true, _, _⟩, ⟨19, true, _, _⟩]) (M' := [⟨4, _, _⟩, ⟨5, _, _⟩]) rfl rfl ?_
    have va : Valid a := valid_of ha
    have vb : Valid b := valid_of hbb
    have hvl := va.le
    have hvl2 := vb.le
    have hva := va.len
    have hvb := vb.len
    refine End.nxt ?_
    refine Tr.seq ?_
    refine Tr.seq ?_
    refine Tr.rg ?_
    refine TrL.op (ok_move rfl (fun _ => rfl)) rfl rfl ?_
    refine TrL.op (ok_lenJ rfl (fun _ => rfl)) rfl rfl ?_
    refine TrL.op (ok_fldO rfl (fun _ => rfl)) rfl rfl ?_
    refine TrL.op (ok_ldB rfl (fun _ => rfl) rfl) rfl rfl ?_
    refine TrL.op (ok_lenJ rfl (fun _ => rfl)) rfl rfl ?_
    refine TrL.op (ok_neq rfl (fun _ => rfl) rfl (fun _ => rfl)) rfl rfl ?_
    refine TrL.op (ok_move rfl (fun _ => rfl)) rfl rfl ?_
    refine TrL.gd rfl rfl rfl (ok_move rfl (fun _ => rfl)) rfl rfl ?_
    refine TrL.gd rfl rfl rfl (ok_move rfl id) rfl rfl ?_
    refine TrL.gd rfl rfl rfl (ok_move rfl (fun _ => rfl)) rfl rfl ?_
    refine TrL.gd rfl rfl rfl (ok_lenJ rfl id) rfl rfl ?_
    refine TrL.gd rfl rfl rfl (ok_fldO rfl (fun _ => rfl)) rfl rfl ?_
    refine TrL.gd rfl rfl rfl (ok_ldB rfl id rfl) rfl rfl ?_
    refine TrL.gd rfl rfl rfl (ok_lenJ rfl id) rfl rfl ?_
    refine TrL.gd rfl rfl rfl (ok_neq rfl id rfl id) rfl rfl ?_
    refine TrL.gd rfl rfl rfl (ok_and rfl id rfl (fun hp h => gdT2 (id hp) h)) rfl rfl ?_
    refine TrL.op (ok_or rfl (fun _ => rfl) rfl (fun hp h => gdF2 ((fun _ => rfl) hp) h)) rfl rfl ?_
    refine TrL.fin ?_
    refine End.nxt ?_
    refine Tr.cnd rfl ?_ ?_
    · intro h8
      rw [shp2] at h8
      have hs := of_decide_eq_true h8
      refine Tr.seq ?_
      refine Tr.rg ?_
      refine TrL.op (ok_assign rfl (fun _ => rfl)) rfl rfl ?_
      refine TrL.fin ?_
      refine End.nxt ?_
      refine Tr.ret ?_
      refine Rts.thn ?_
      exact Rts.res1 (fn := Try.f92) rfl (.i rfl (cmE_s ha hbb hs).symm <| .nil)
    · intro h8
      rw [shp2] at h8
      have hs := of_decide_eq_false h8
      have hfl : f.length = a.1.length := Classical.byContradiction fun hh => hs (.inl hh)
      refine Tr.skip ?_
      refine End.nxt ?_
      refine Tr.seq ?_
      refine Tr.rg ?_
      refine TrL.op (ok_fldO rfl (fun _ => rfl)) rfl rfl ?_
      refine TrL.op (ok_ldB rfl (fun _ => rfl) rfl) rfl rfl ?_
      refine TrL.op (ok_lenJ rfl (fun _ => rfl)) rfl rfl ?_
      refine TrL.new (ok_makeN eBool 49 rfl (fun _ => rfl) rfl (fun _ => rfl) rfl rfl rfl (fun _ => by omega)) rfl rfl rfl rfl ?_
      refine TrL.op (ok_assign rfl (fun _ => rfl)) rfl rfl ?_
      refine TrL.fin ?_
      refine End.nxt ?_
      refine Tr.seq ?_
      refine Tr.seq ?_
      refine Tr.rg ?_
      refine TrL.op (ok_move rfl (fun _ => rfl)) rfl rfl ?_
      refine TrL.op (ok_lenJ rfl (fun _ => rfl)) rfl rfl ?_
      refine TrL.op (ok_move rfl (fun _ => rfl)) rfl rfl ?_
      refine TrL.fin ?_
      refine End.nxt ?_
      refine Tr.for1 (σ := Nat) [⟨2, true, _, _⟩, ⟨4, true, _, _⟩, ⟨5, true, _, _⟩, ⟨12, true, _, _⟩, ⟨50, true, _, _⟩, ⟨51, true, _, _⟩] [⟨4, _, _⟩, ⟨5, _, _⟩] (fun k => [⟨52, true, [], kI (k : Int)⟩]) (fun k => [⟨49, [], cArr false 4 eBool (seenB b.1.length (f.take k)) b.1.length⟩]) (fun k => k ≤ f.length ∧ ∀ i, i < k → 0 ≤ nth f i ∧ nth f i < b.1.length) (fun k => inR f b.1.length ∧ k = f.length) (fun k => f.length - k) (0) ⟨Nat.zero_le _, fun i h => absurd h (by omega)⟩ (Ent.mk (.i rfl (by first | rfl | omega | (simp; done) | (simp; omega) | assumption) <| .k rfl rfl <| .k rfl rfl <| .k rfl rfl <| .k rfl rfl <| .k rfl rfl <| .k rfl rfl <| .nil) (.a seenB_nil (by first | rfl | omega | (simp; done) | (simp; omega) | assumption) <| .k rfl <| .k rfl <| .nil) rfl) ?_ ?_
      · rintro k ⟨hk, hR⟩
        refine Tr.norm (S' := [⟨52, true, _, _⟩, ⟨2, true, _, _⟩, ⟨4, true, _, _⟩, ⟨5, true, _, _⟩, ⟨12, true, _, _⟩, ⟨50, true, _, _⟩, ⟨51, true, _, _⟩]) (M' := [⟨49, _, _⟩, ⟨4, _, _⟩, ⟨5, _, _⟩]) rfl rfl ?_
        refine Tr.seq ?_
        refine Tr.rg ?_
        refine TrL.op (ok_lss rfl (fun _ => rfl) rfl (fun _ => rfl)) rfl rfl ?_
        refine TrL.fin ?_
        refine End.nxt ?_
        refine Tr.seq ?_
        refine Tr.cnd rfl ?_ ?_
        · intro h12
          replace h12 := of_decide_eq_true h12
          refine Tr.skip ?_
          refine End.nxt ?_
          refine Tr.seq ?_
          refine Tr.blk ?_
          refine Tr.seq ?_
          refine Tr.rg ?_
          first | refine TrL.op (ok_idxN rfl (fun _ => rfl) rfl (fun _ => rfl) rfl (fun _ => by omega)) rfl rfl ?_ | refine TrL.op (ok_idxP rfl (fun _ => rfl) rfl (fun _ => rfl) rfl (fun _ => by omega)) rfl rfl ?_
          refine TrL.op (ok_ldP rfl (fun _ => rfl) rfl) rfl rfl ?_
          refine TrL.op (ok_assign rfl (fun _ => rfl)) rfl rfl ?_
          refine TrL.fin ?_
          refine End.nxt ?_
          refine Tr.seq ?_
          refine Tr.seq ?_
          refine Tr.rg ?_
          refine TrL.op (ok_move rfl (fun _ => rfl)) rfl rfl ?_
          refine TrL.op (ok_lss rfl (fun _ => rfl) rfl (fun _ => rfl)) rfl rfl ?_
          refine TrL.op (ok_move rfl (fun _ => rfl)) rfl rfl ?_
          refine TrL.gd rfl rfl rfl (ok_move rfl (fun _ => rfl)) rfl rfl ?_
          refine TrL.gd rfl rfl rfl (ok_move rfl (fun _ => rfl)) rfl rfl ?_
          refine TrL.gd rfl rfl rfl (ok_lenO rfl id) rfl rfl ?_
          refine TrL.gd rfl rfl rfl (ok_geq rfl id rfl id) rfl rfl ?_
          refine TrL.op (ok_or rfl (fun _ => rfl) rfl (fun hp h => gdF2 ((fun _ => rfl) hp) h)) rfl rfl ?_
          refine TrL.fin ?_
          refine End.nxt ?_
          refine Tr.cnd rfl ?_ ?_
          · intro h14
            simp at h14
            refine Tr.seq ?_
            refine Tr.rg ?_
            refine TrL.op (ok_assign rfl (fun _ => rfl)) rfl rfl ?_
            refine TrL.fin ?_
            refine End.nxt ?_
            refine Tr.ret ?_
            refine Rts.thn ?_
            refine Rts.out ?_
            refine Rts.thn ?_
            refine Rts.thn ?_
            refine Rts.out ?_
            refine Rts.thn ?_
            refine Rts.thn ?_
            exact Rts.res1 (fn := Try.f92) rfl (.i rfl (cmE_r ha hbb hs (k := k) (by omega) (by omega)).symm <| .nil)
          · intro h14
            simp at h14
            refine Tr.skip ?_
            refine End.nxt ?_
            refine Tr.rg ?_
            refine TrL.op (ok_move rfl (fun _ => rfl)) rfl rfl ?_
            refine TrL.op (ok_move rfl (fun _ => rfl)) rfl rfl ?_
            first | refine TrL.op (ok_idxEN rfl (fun _ => rfl) rfl (fun _ => rfl) (fun _ => by omega)) rfl rfl ?_ | refine TrL.op (ok_idxE rfl (fun _ => rfl) rfl (fun _ => rfl) (fun _ => by omega)) rfl rfl ?_
            refine TrL.stE rfl rfl rfl rfl rfl ?_
            refine TrL.fin ?_
            refine End.blk ?_
            refine End.nxt ?_
            refine Tr.rg ?_
            refine TrL.op (ok_add rfl (fun _ => rfl) rfl (fun _ => rfl) (fun _ => by omega)) rfl rfl ?_
            refine TrL.op (ok_move rfl (fun _ => rfl)) rfl rfl ?_
            refine TrL.fin ?_
            exact End.lp (k + 1) ⟨by omega, all_succ hR (by omega)⟩ (by omega) (Ent.mk (.i rfl (by first | rfl | omega | (simp; done) | (simp; omega) | assumption) <| .k rfl rfl <| .k rfl rfl <| .k rfl rfl <| .k rfl rfl <| .k rfl rfl <| .k rfl rfl <| .nil) (.a (by rw [take_succ_nth (by omega), seenB_set (by omega)]) (by first | rfl | omega | (simp; done) | (simp; omega) | assumption) <| .k rfl <| .k rfl <| .nil) rfl)
        · intro h12
          replace h12 := Int.not_lt.1 (of_decide_eq_false h12)
          refine Tr.exit ?_
          refine Exs.thn ?_
          refine Exs.thn ?_
          refine Exs.here ?_
          exact End.cut (k) ⟨fun i hi => hR i (by omega), by omega⟩ (Ent.mk (.i rfl (by first | rfl | omega | (simp; done) | (simp; omega) | assumption) <| .k rfl rfl <| .k rfl rfl <| .k rfl rfl <| .k rfl rfl <| .k rfl rfl <| .k rfl rfl <| .nil) (.a (by first | rfl | omega | (simp; done) | (simp; omega) | assumption) (by first | rfl | omega | (simp; done) | (simp; omega) | assumption) <| .k rfl <| .k rfl <| .nil) rfl)
      · rintro k ⟨hr, hkf⟩
        refine End.norm (S' := [⟨52, true, _, _⟩, ⟨2, true, _, _⟩, ⟨4, true, _, _⟩, ⟨5, true, _, _⟩, ⟨12, true, _, _⟩, ⟨50, true, _, _⟩, ⟨51, true, _, _⟩]) (M' := [⟨49, _, _⟩, ⟨4, _, _⟩, ⟨5, _, _⟩]) rfl rfl ?_
        subst hkf
        rw [List.take_length]
        refine End.nxt ?_
        refine Tr.seq ?_
        refine Tr.seq ?_
        refine Tr.rg ?_
        refine TrL.op (ok_move rfl (fun _ => rfl)) rfl rfl ?_
        refine TrL.op (ok_lenJ rfl (fun _ => rfl)) rfl rfl ?_
        refine TrL.op (ok_move rfl (fun _ => rfl)) rfl rfl ?_
        refine TrL.fin ?_
        refine End.nxt ?_
        refine Tr.for1 (σ := Nat) [⟨2, true, _, _⟩, ⟨4, true, _, _⟩, ⟨5, true, _, _⟩, ⟨12, true, _, _⟩, ⟨68, true, _, _⟩, ⟨69, true, _, _⟩] [⟨4, _, _⟩, ⟨5, _, _⟩, ⟨49, _, _⟩] (fun k => [⟨70, true, [], kI (k : Int)⟩]) (fun k => []) (fun k => k ≤ f.length ∧ ∀ i, i < k → (ap f (nth a.1 i) = ap b.1 (nth f i) ∧ ap f (nth a.2 i) = ap b.2 (nth f i))) (fun k => ∀ i, i < f.length → (ap f (nth a.1 i) = ap b.1 (nth f i) ∧ ap f (nth a.2 i) = ap b.2 (nth f i))) (fun k => f.length - k) (0) ⟨Nat.zero_le _, fun i h => absurd h (by omega)⟩ (Ent.mk (.i rfl (by first | rfl | omega | (simp; done) | (simp; omega) | assumption) <| .k rfl rfl <| .k rfl rfl <| .k rfl rfl <| .k rfl rfl <| .k rfl rfl <| .k rfl rfl <| .nil) (.k rfl <| .k rfl <| .k rfl <| .nil) rfl) ?_ ?_
        · rintro k ⟨hk2, hR2⟩
          refine Tr.norm (S' := [⟨70, true, _, _⟩, ⟨2, true, _, _⟩, ⟨4, true, _, _⟩, ⟨5, true, _, _⟩, ⟨12, true, _, _⟩, ⟨68, true, _, _⟩, ⟨69, true, _, _⟩]) (M' := [⟨4, _, _⟩, ⟨5, _, _⟩, ⟨49, _, _⟩]) rfl rfl ?_
          refine Tr.seq ?_
          refine Tr.rg ?_
          refine TrL.op (ok_lss rfl (fun _ => rfl) rfl (fun _ => rfl)) rfl rfl ?_
          refine TrL.fin ?_
          refine End.nxt ?_
          refine Tr.seq ?_
          refine Tr.cnd rfl ?_ ?_
          · intro h19
            replace h19 := of_decide_eq_true h19
            refine Tr.skip ?_
            refine End.nxt ?_
            refine Tr.seq ?_
            refine Tr.blk ?_
            refine Tr.seq ?_
            refine Tr.rg ?_
            refine TrL.op (ok_move rfl (fun _ => rfl)) rfl rfl ?_
            first | refine TrL.op (ok_idxN rfl (fun _ => rfl) rfl (fun _ => rfl) rfl (fun _ => by omega)) rfl rfl ?_ | refine TrL.op (ok_idxP rfl (fun _ => rfl) rfl (fun _ => rfl) rfl (fun _ => by omega)) rfl rfl ?_
            refine TrL.op (ok_ldP rfl (fun _ => rfl) rfl) rfl rfl ?_
            refine TrL.op (ok_assign rfl (fun _ => rfl)) rfl rfl ?_
            refine TrL.op (ok_assign rfl (fun _ => rfl)) rfl rfl ?_
            refine TrL.fin ?_
            refine End.nxt ?_
            refine Tr.seq ?_
            refine Tr.draw 28 mixed (by kernel_rfl) ?_
            have a1 := va.ri (i := k) (by omega)
            have a2 := va.ui (i := k) (by omega)
            have a3 := hr k (by omega)
            have a4 := hr (nth a.1 k).toNat (by omega)
            have a5 := hr (nth a.2 k).toNat (by omega)
            refine RunD.op (ok_move rfl (fun _ => rfl)) rfl rfl ?_
            refine RunD.op (ok_fldO rfl (fun _ => rfl)) rfl rfl ?_
            refine RunD.op (ok_ldB rfl (fun _ => rfl) rfl) rfl rfl ?_
            refine RunD.op (ok_move rfl (fun _ => rfl)) rfl rfl ?_
            first | refine RunD.op (ok_idxN rfl (fun _ => rfl) rfl (fun _ => rfl) rfl (fun _ => by omega)) rfl rfl ?_ | refine RunD.op (ok_idxP rfl (fun _ => rfl) rfl (fun _ => rfl) rfl (fun _ => by omega)) rfl rfl ?_
            refine RunD.op (ok_ldP rfl (fun _ => rfl) rfl) rfl rfl ?_
            first | refine RunD.op (ok_idxN rfl (fun _ => rfl) rfl (fun _ => rfl) rfl (fun _ => by omega)) rfl rfl ?_ | refine RunD.op (ok_idxP rfl (fun _ => rfl) rfl (fun _ => rfl) rfl (fun _ => by omega)) rfl rfl ?_
            refine RunD.op (ok_ldP rfl (fun _ => rfl) rfl) rfl rfl ?_
            refine RunD.op (ok_fldO rfl (fun _ => rfl)) rfl rfl ?_
            refine RunD.op (ok_ldB rfl (fun _ => rfl) rfl) rfl rfl ?_
            refine RunD.op (ok_move rfl (fun _ => rfl)) rfl rfl ?_
            first | refine RunD.op (ok_idxN rfl (fun _ => rfl) rfl (fun _ => rfl) rfl (fun _ => by omega)) rfl rfl ?_ | refine RunD.op (ok_idxP rfl (fun _ => rfl) rfl (fun _ => rfl) rfl (fun _ => by omega)) rfl rfl ?_
            refine RunD.op (ok_ldP rfl (fun _ => rfl) rfl) rfl rfl ?_
            refine RunD.op (ok_neq rfl (fun _ => rfl) rfl (fun _ => rfl)) rfl rfl ?_
            refine RunD.op (ok_move rfl (fun _ => rfl)) rfl rfl ?_
            refine RunD.gd rfl rfl rfl (ok_move rfl (fun _ => rfl)) rfl rfl ?_
            refine RunD.gd rfl rfl rfl (ok_fldO rfl (fun _ => rfl)) rfl rfl ?_
            refine RunD.gd rfl rfl rfl (ok_ldB rfl id rfl) rfl rfl ?_
            refine RunD.gd rfl rfl rfl (ok_move rfl (fun _ => rfl)) rfl rfl ?_
            first | refine RunD.gd rfl rfl rfl (ok_idxN rfl id rfl id rfl (fun hp => by simp at hp; omega)) rfl rfl ?_ | refine RunD.gd rfl rfl rfl (ok_idxP rfl id rfl id rfl (fun hp => by simp at hp; omega)) rfl rfl ?_
            refine RunD.gd rfl rfl rfl (ok_ldP rfl id rfl) rfl rfl ?_
            first | refine RunD.gd rfl rfl rfl (ok_idxN rfl id rfl id rfl (fun hp => by simp at hp; omega)) rfl rfl ?_ | refine RunD.gd rfl rfl rfl (ok_idxP rfl id rfl id rfl (fun hp => by simp at hp; omega)) rfl rfl ?_
            refine RunD.gd rfl rfl rfl (ok_ldP rfl id rfl) rfl rfl ?_
            refine RunD.gd rfl rfl rfl (ok_fldO rfl (fun _ => rfl)) rfl rfl ?_
            refine RunD.gd rfl rfl rfl (ok_ldB rfl id rfl) rfl rfl ?_
            refine RunD.gd rfl rfl rfl (ok_move rfl (fun _ => rfl)) rfl rfl ?_
            first | refine RunD.gd rfl rfl rfl (ok_idxN rfl id rfl id rfl (fun hp => by simp at hp; omega)) rfl rfl ?_ | refine RunD.gd rfl rfl rfl (ok_idxP rfl id rfl id rfl (fun hp => by simp at hp; omega)) rfl rfl ?_
            refine RunD.gd rfl rfl rfl (ok_ldP rfl id rfl) rfl rfl ?_
            refine RunD.z ?_
            refine TrL.gd rfl rfl rfl (ok_neq rfl id rfl id) rfl rfl ?_
            refine TrL.op (ok_or rfl (fun _ => rfl) rfl (fun hp h => gdF2 ((fun _ => rfl) hp) h)) rfl rfl ?_
            refine TrL.fin ?_
            refine End.nxt ?_
            refine Tr.cnd rfl ?_ ?_
            · intro h21
              simp at h21
              refine Tr.seq ?_
              refine Tr.rg ?_
              refine TrL.op (ok_assign rfl (fun _ => rfl)) rfl rfl ?_
              refine TrL.fin ?_
              refine End.nxt ?_
              refine Tr.ret ?_
              refine Rts.out ?_
              refine Rts.thn ?_
              refine Rts.thn ?_
              refine Rts.out ?_
              refine Rts.thn ?_
              refine Rts.thn ?_
              exact Rts.res1 (fn := Try.f92) rfl (.i rfl (cmE_p ha hbb hs hr (.inl (isMapB_not (k := k) (by omega) (by unfold ap; intro hh; rcases h21 with h | h; exact h hh.1; exact h hh.2)))).symm <| .nil)
            · intro h21
              simp at h21
              refine Tr.skip ?_
              refine End.blk ?_
              refine End.nxt ?_
              refine Tr.rg ?_
              refine TrL.op (ok_add rfl (fun _ => rfl) rfl (fun _ => rfl) (fun _ => by omega)) rfl rfl ?_
              refine TrL.op (ok_move rfl (fun _ => rfl)) rfl rfl ?_
              refine TrL.fin ?_
              exact End.lp (k + 1) ⟨by omega, all_succ hR2 (by unfold ap; exact h21)⟩ (by omega) (Ent.mk (.i rfl (by first | rfl | omega | (simp; done) | (simp; omega) | assumption) <| .k rfl rfl <| .k rfl rfl <| .k rfl rfl <| .k rfl rfl <| .k rfl rfl <| .k rfl rfl <| .nil) (.k rfl <| .k rfl <| .k rfl <| .nil) rfl)
          · intro h19
            replace h19 := Int.not_lt.1 (of_decide_eq_false h19)
            refine Tr.exit ?_
            refine Exs.thn ?_
            refine Exs.thn ?_
            refine Exs.here ?_
            exact End.cut (k) (fun i hi => hR2 i (by omega)) (Ent.mk (.i rfl (by first | rfl | omega | (simp; done) | (simp; omega) | assumption) <| .k rfl rfl <| .k rfl rfl <| .k rfl rfl <| .k rfl rfl <| .k rfl rfl <| .k rfl rfl <| .nil) (.k rfl <| .k rfl <| .k rfl <| .nil) rfl)
        · intro k hE2
          refine End.norm (S' := [⟨70, true, _, _⟩, ⟨2, true, _, _⟩, ⟨4, true, _, _⟩, ⟨5, true, _, _⟩, ⟨12, true, _, _⟩, ⟨68, true, _, _⟩, ⟨69, true, _, _⟩]) (M' := [⟨4, _, _⟩, ⟨5, _, _⟩, ⟨49, _, _⟩]) rfl rfl ?_
          refine End.nxt ?_
          refine Tr.seq ?_
          refine Tr.seq ?_
          refine Tr.rg ?_
          refine TrL.op (ok_move rfl (fun _ => rfl)) rfl rfl ?_
          refine TrL.frz 49 [12, 106] ⟨rfl, rfl, trivial⟩ (by simp only [lenMax]; omega) rfl ?_
          refine TrL.norm (S' := [⟨_, _, _, _⟩, ⟨_, _, _, _⟩, ⟨_, _, _, _⟩, ⟨_, _, _, _⟩, ⟨_, _, _, _⟩, ⟨_, _, _, _⟩, ⟨_, _, _, _⟩, ⟨_, _, _, _⟩, ⟨_, _, _, _⟩, ⟨_, _, _, _⟩]) rfl rfl ?_
          refine TrL.op (ok_call (fun hp => ct_ContainsB _ _) (.a rfl (fun _ => rfl) <| .a rfl (fun _ => rfl) <| .nil)) rfl rfl ?_
          refine TrL.fin ?_
          refine End.nxt ?_
          refine Tr.cnd rfl ?_ ?_
          · intro h24
            rw [seenB_onto] at h24
            refine Tr.seq ?_
            refine Tr.rg ?_
            refine TrL.op (ok_assign rfl (fun _ => rfl)) rfl rfl ?_
            refine TrL.fin ?_
            refine End.nxt ?_
            refine Tr.ret ?_
            refine Rts.thn ?_
            exact Rts.res1 (fn := Try.f92) rfl (.i rfl (cmE_p ha hbb hs hr (.inr (by simpa using h24))).symm <| .nil)
          · intro h24
            rw [seenB_onto] at h24
            refine Tr.skip ?_
            refine End.nxt ?_
            refine Tr.seq ?_
            refine Tr.rg ?_
            refine TrL.op (ok_assign rfl (fun _ => rfl)) rfl rfl ?_
            refine TrL.fin ?_
            refine End.nxt ?_
            refine Tr.ret ?_
            exact Rts.res1 (fn := Try.f92) rfl (.i rfl (cmE_0 ha hbb hs hr (isMapB_all (fun x hx => hE2 x (by omega))) (by simpa using h24)).symm <| .nil)

set_option maxRecDepth 100000 in
theorem ct_oCheckCovering (a b : Ori) (f : List Int) : Ct Try.prog 46 [kRd eO a, kRd eO b, kRd (eL eI) f] (kI (cmE a b f false)) := by
  refine Ct.mk Try.func46 rfl Try.ntmps46 rfl (fun w J => ?_)
  refine Tr.seq ?_
  refine Tr.rg ?_
  refine TrL.new (ok_box 3 rfl (fun _ => rfl) rfl) rfl rfl rfl rfl ?_
  refine TrL.new (ok_box 4 rfl (fun _ => rfl) rfl) rfl rfl rfl rfl ?_
  refine TrL.op (ok_assign rfl (fun _ => rfl)) rfl rfl ?_
  refine TrL.fin ?_
  refine End.nxt ?_
  refine Tr.seq ?_
  refine Tr.rg ?_
  refine TrL.op (ok_ldBS rfl (fun _ => rfl)) rfl rfl ?_
  refine TrL.op (ok_ldBS rfl (fun _ => rfl)) rfl rfl ?_
  refine TrL.op (ok_move rfl (fun _ => rfl)) rfl rfl ?_
  refine TrL.op (ok_call (fun hp => ct_oCheckMap _ _ _ _) (.s rfl (fun _ => rfl) rfl <| .s rfl (fun _ => rfl) rfl <| .a rfl (fun _ => rfl) <| .a rfl (fun _ => rfl) <| .nil)) rfl rfl ?_
  refine TrL.op (ok_assign rfl (fun _ => rfl)) rfl rfl ?_
  refine TrL.fin ?_
  refine End.nxt ?_
  refine Tr.ret ?_
  exact Rts.res1 (fn := Try.f46) rfl (.i rfl (by first | rfl | omega | (simp; done) | (simp; omega) | assumption) <| .nil)

end Go.Fl

/- Maps along the search; the reference's maps. Plain Lean, no program in sight. -/
namespace Go.Fl
theorem nth_fst2 {p q r s : Int} {j : Nat} (h : j < 2) : (nth [(p, q, ()), (r, s, ())] j).1 = nth [p, r] j ∧ (nth [(p, q, ()), (r, s, ())] j).2.1 = nth [q, s] j := by
  rcases j with _ | _ | j
  · exact ⟨rfl, rfl⟩
  · exact ⟨rfl, rfl⟩
  · omega
/-- The state of a map at the k-th square of the search, j neighbours looked at; f0: the map when the square was taken up. -/
structure MpSt (a b : Ori) (s : Int) (k j : Nat) (f0 f : List Int) : Prop where
  st : MapSt a b s (srch a [] 0 k j) f
  kp : Kept a b (srch a [] 0 k j) f k j
  same : ap f (nth (bfsTo a [] 0 k) k) = ap f0 (nth (bfsTo a [] 0 k) k)
section
variable {a b : Ori} {s : Int} {k j : Nat} {f0 f : List Int}
theorem srch_nth (hk : k < (bfsTo a [] 0 k).length) : nth (srch a [] 0 k j) k = nth (bfsTo a [] 0 k) k ∧ k < (srch a [] 0 k j).length := by
  obtain ⟨r, hr⟩ := addL_pre (F := []) (ys := (stp a (nth (bfsTo a [] 0 k) k)).take j) (l := bfsTo a [] 0 k)
  unfold srch
  rw [hr]
  exact ⟨nth_app_l hk, by rw [List.length_append]; omega⟩
theorem MpSt.start (h : MapSt a b s (bfsTo a [] 0 k) f0) (hk : Kept a b (bfsTo a [] 0 k) f0 k 0) : MpSt a b s k 0 f0 f0 := ⟨h, hk, rfl⟩
theorem MpSt.old (va : Valid a) (hk : k < (bfsTo a [] 0 k).length) (hj : j < 2) (h : MpSt a b s k j f0 f) (hs : Good a.1.length ([] ++ [(0 : Int)])) (vb : Valid b) (e : ap f (nth (stp a (nth (bfsTo a [] 0 k) k)) j) = nth (stp b (ap f0 (nth (bfsTo a [] 0 k) k))) j) :
    srch a [] 0 k (j + 1) = srch a [] 0 k j ∧ MpSt a b s k (j + 1) f0 f := by
  obtain ⟨hn, hl⟩ := srch_nth (j := j) hk
  have hx := srch_x va hs hk
  have hy := stp_nth_sq va hx hj
  have hz := stp_nth_sq vb (h.st.inn _ (hn ▸ nth_mem hl)) hj
  rw [h.same] at hz
  have hm : nth (stp a (nth (bfsTo a [] 0 k) k)) j ∈ srch a [] 0 k j := Classical.byContradiction fun hh => by
    have := h.st.out _ hy hh
    rw [this] at e; have := hz.1; omega
  have e1 : srch a [] 0 k (j + 1) = srch a [] 0 k j := srch_in hj (by simpa using hm)
  refine ⟨e1, ⟨by rw [e1]; exact h.st, ?_, h.same⟩⟩
  rw [e1]
  exact h.kp.same (by rw [hn]; exact hm) (by rw [hn, h.same]; exact e)
theorem MpSt.new (va : Valid a) (hk : k < (bfsTo a [] 0 k).length) (hj : j < 2) (h : MpSt a b s k j f0 f) (hs : Good a.1.length ([] ++ [(0 : Int)])) (vb : Valid b) (e : ap f (nth (stp a (nth (bfsTo a [] 0 k) k)) j) = -1) :
    srch a [] 0 k (j + 1) = srch a [] 0 k j ++ [nth (stp a (nth (bfsTo a [] 0 k) k)) j] ∧ MpSt a b s k (j + 1) f0 (f.set (nth (stp a (nth (bfsTo a [] 0 k) k)) j).toNat (nth (stp b (ap f0 (nth (bfsTo a [] 0 k) k))) j)) := by
  obtain ⟨hn, hl⟩ := srch_nth (j := j) hk
  have hx := srch_x va hs hk
  have hy := stp_nth_sq va hx hj
  have hxm : nth (bfsTo a [] 0 k) k ∈ srch a [] 0 k j := hn ▸ nth_mem hl
  have hz := stp_nth_sq vb (h.st.inn _ hxm) hj
  have hm : nth (stp a (nth (bfsTo a [] 0 k) k)) j ∉ srch a [] 0 k j := fun hh => by
    have := h.st.inn _ hh
    rw [e] at this; have := this.1; omega
  have e1 : srch a [] 0 k (j + 1) = srch a [] 0 k j ++ [nth (stp a (nth (bfsTo a [] 0 k) k)) j] := srch_new hj (by simpa using hm)
  rw [← h.same]
  refine ⟨e1, ⟨?_, ?_, ?_⟩⟩
  · rw [e1]
    exact h.st.more hy hm hz fun g hg e' => by rw [h.st.hom g hg e' _ hxm]; exact hom_stp hg hx hj
  · rw [e1]
    exact Kept.more h.st hl h.kp hy hm hz (by rw [hn]) (by rw [hn])
  · rw [ap_set hy.1 (by rw [h.st.len]; exact hx), if_neg (fun e' => hm (by rw [e']; exact hxm))]
    exact h.same
theorem MpSt.clash (va : Valid a) (hk : k < (bfsTo a [] 0 k).length) (hj : j < 2) (h : MpSt a b s k j f0 f) (h1 : ap f (nth (stp a (nth (bfsTo a [] 0 k) k)) j) ≠ nth (stp b (ap f0 (nth (bfsTo a [] 0 k) k))) j) (h2 : ap f (nth (stp a (nth (bfsTo a [] 0 k) k)) j) ≠ -1) : homAt a b s = none := by
  obtain ⟨hn, hl⟩ := srch_nth (j := j) hk
  exact map_clash va h.st hl hj (by rw [hn, h.same]; exact h1) (by rw [hn]; exact h2)
theorem MpSt.fin (hk : k < (bfsTo a [] 0 k).length) (h : MpSt a b s k 2 f0 f) : MapSt a b s (bfsTo a [] 0 (k + 1)) f ∧ Kept a b (bfsTo a [] 0 (k + 1)) f (k + 1) 0 := by
  have h1 := h.st; have h2 := h.kp
  rw [srch_two hk] at h1 h2
  exact ⟨h1, h2.next⟩
end
theorem map_end {a b : Ori} (va : Valid a) (ca : Conn a) {s : Int} {k : Nat} {f : List Int} (hs : Good a.1.length ([] ++ [(0 : Int)])) (hk : (bfsTo a [] 0 k).length ≤ k) (h : MapSt a b s (bfsTo a [] 0 k) f) (hp : Kept a b (bfsTo a [] 0 k) f k 0) : homAt a b s = some f := by
  have e := bfs_of va hs hk
  have hp' : Kept a b (bfsTo a [] 0 k) f (bfsTo a [] 0 k).length 0 := fun j q hj hq _ => hp j q hj hq (.inl (by omega))
  rw [e] at h hp'
  exact kept_hom va ca h hp'
theorem mapSt_start {a b : Ori} (v : Valid a) {s : Int} (hs : Sq b.1.length s) : MapSt a b s (bfsTo a [] 0 0) ((List.replicate a.1.length (-1 : Int)).set 0 s) ∧ Kept a b (bfsTo a [] 0 0) ((List.replicate a.1.length (-1 : Int)).set 0 s) 0 0 :=
  ⟨MapSt.start v hs, fun _ _ _ _ h => by omega⟩
noncomputable def covE (a b : Ori) : Int := orE (chk2 a b) (if (mapsL a b).length = 0 then 11 else 0)
noncomputable def covL (a b : Ori) : List Int := if covE a b = 0 then nth (mapsL a b) 0 else []
noncomputable def isoE (a b : Ori) : Int := orE (chk2 a b) (if a.1.length ≠ b.1.length ∨ (mapsL a b).length = 0 then 11 else 0)
noncomputable def isoL (a b : Ori) : List Int := if isoE a b = 0 then nth (mapsL a b) 0 else []
theorem mt_fill {n : Nat} : fillTo 0 (fun _ => (-1 : Int)) n n = List.replicate n (-1) := by
  rw [fillTo_all, tab_rep]; rfl
end Go.Fl

/- Elements of an array of the call's own. No program in sight. -/
namespace Go.Fl
open Go Go.RowKit
section
variable {P : Program} {c : Ctx} {S : Slots} {M : Conts} {p : Bool} {d : Option Tmp} {ty : TypeId} {pos : String} {af : Array Edge} {gd : Option (Nat × Bool)} {x y : Operand} {b b' : Bool}
theorem ok_idxArrO {t et : TypeId} {n : Nat} [ht : TyArr P t n et] {sz by' : Nat} {zz : Value} [hz : TySz P et sz by' zz] {u o : Nat} {ik : IntKind} {i : Int} (hx : opK S x = some (b, kOwn u o)) (hb : p = true → b = true) (hy : opK S y = some (b', kInt ik i)) (hb' : p = true → b' = true) (h : p = true → 0 ≤ i ∧ i < n) :
    OpOk P c S M ⟨d, .indexAddr t x y, ty, pos, af, gd⟩ p (kOwn u (o + i.toNat * sz)) none :=
  OpOk.pure fun hp a g w _ _ ho => by
    obtain ⟨bl, cap, h1, h2⟩ := ho x (by simp [Op.operands]) b _ hx (hb hp)
    have h3 : a.eval y = _ := ho y (by simp [Op.operands]) b' _ hy (hb' hp)
    have hlt := h hp
    obtain ⟨ti, hi, rfl, _, _⟩ := hz.h
    refine ⟨.pointer (some ⟨bl, o + i.toNat * ti.size, none⟩), ?_, bl, cap, h1, rfl⟩
    simp [execOp, h2, h3, Instr.indexAt, run_underlying ht.h, asIntOf, hlt, sizeOf, typeInfo, hi, Instr.sureAddr, Addr.add_lit]
end
end Go.Fl

/- Contracts: maps; the law of maps. -/
namespace Go.Fl
open Go Go.Proofs


theorem opt_get {o : Option (List Int)} (h : o.isSome = true) : o = some (o.getD []) := by cases o with
  | none => cases h
  | some x => rfl
theorem opt_none {o : Option (List Int)} (h : o.isSome = false) : o = none := by cases o with
  | none => rfl
  | some x => cases h

set_option maxRecDepth 100000 in
set_option maxHeartbeats 2000000 in
theorem ct_mapTo (a b : Ori) (s : Int) (va : Valid a) (ca : Conn a) (vb : Valid b) (hs : Sq b.1.length s) : Ct Try.prog 124 [kRd eO a, kRd eO b, kI s] (kTup [kIf (homAt a b s).isSome (kRd (eL eI) ((homAt a b s).getD [])) (kDet (.slice none 0 0)), kB (homAt a b s).isSome]) := by
  have hv0 := va.pos
  have hv1 := va.len
  have hv2 := va.le
  have hw1 := vb.len
  have h00 : Sq a.1.length 0 := ⟨by omega, by omega⟩
  have hg0 := good1 h00
  refine Ct.mk Try.func124 rfl Try.ntmps124 rfl (fun w J => ?_)
  refine Tr.seq ?_
  refine Tr.rg ?_
  refine TrL.new (ok_box 3 rfl (fun _ => rfl) rfl) rfl rfl rfl rfl ?_
  refine TrL.new (ok_box 4 rfl (fun _ => rfl) rfl) rfl rfl rfl rfl ?_
  refine TrL.op (ok_assign rfl (fun _ => rfl)) rfl rfl ?_
  refine TrL.op (ok_assign rfl (fun _ => rfl)) rfl rfl ?_
  refine TrL.fin ?_
  refine End.nxt ?_
  refine Tr.seq ?_
  refine Tr.rg ?_
  refine TrL.op (ok_bslJ eI (fun hp => .cons rfl <| .nil) rfl rfl rfl rfl) rfl rfl ?_
  refine TrL.op (ok_fldO rfl (fun _ => rfl)) rfl rfl ?_
  refine TrL.op (ok_ldB rfl (fun _ => rfl) rfl) rfl rfl ?_
  refine TrL.op (ok_lenJ rfl (fun _ => rfl)) rfl rfl ?_
  refine TrL.new (ok_callN 18 (fun hp => ct_RepeatN _ _ (by omega) (by omega)) (.a rfl (fun _ => rfl) <| .a rfl (fun _ => rfl) <| .nil)) rfl rfl rfl rfl ?_
  refine TrL.op (ok_assign rfl (fun _ => rfl)) rfl rfl ?_
  refine TrL.fin ?_
  refine End.nxt ?_
  refine Tr.seq ?_
  refine Tr.rg ?_
  refine TrL.op (ok_move rfl (fun _ => rfl)) rfl rfl ?_
  refine TrL.op (ok_move rfl (fun _ => rfl)) rfl rfl ?_
  first | refine TrL.op (ok_idxEN rfl (fun _ => rfl) rfl (fun _ => rfl) (fun _ => by omega)) rfl rfl ?_ | refine TrL.op (ok_idxE rfl (fun _ => rfl) rfl (fun _ => rfl) (fun _ => by omega)) rfl rfl ?_
  refine TrL.stE rfl rfl rfl rfl rfl ?_
  refine TrL.fin ?_
  refine End.nxt ?_
  refine Tr.seq ?_
  refine Tr.rg ?_
  refine TrL.new (ok_bsl eI 22 (fun hp => .cons rfl <| .nil) rfl rfl rfl rfl) rfl rfl rfl rfl ?_
  refine TrL.op (ok_assign rfl (fun _ => rfl)) rfl rfl ?_
  refine TrL.fin ?_
  refine End.nxt ?_
  refine Tr.seq ?_
  refine Tr.seq ?_
  refine Tr.rg ?_
  refine TrL.op (ok_assign rfl (fun _ => rfl)) rfl rfl ?_
  refine TrL.fin ?_
  refine End.nxt ?_
  refine Tr.for1 (σ := Nat × List Int) [⟨3, true, _, _⟩, ⟨4, true, _, _⟩, ⟨8, true, _, _⟩] [⟨3, _, _⟩, ⟨4, _, _⟩] (fun (k, f0) => [⟨9, true, [22], kOsl 22 (bfsTo a [] 0 k).length⟩, ⟨10, true, [], kI (k : Int)⟩]) (fun (k, f0) => [⟨18, [], cArr false 3 eI f0 a.1.length⟩, ⟨22, [], cArr false 3 eI (bfsTo a [] 0 k) (bfsTo a [] 0 k).length⟩]) (fun (k, f0) => k ≤ a.1.length ∧ MapSt a b s (bfsTo a [] 0 k) f0 ∧ Kept a b (bfsTo a [] 0 k) f0 k 0) (fun (k, f0) => homAt a b s = some f0) (fun (k, f0) => a.1.length - k) ((0, (List.replicate a.1.length (-1 : Int)).set 0 s)) ⟨Nat.zero_le _, mapSt_start va hs⟩ (Ent.mk (.o rfl (by first | rfl | omega | (simp; done) | (simp; omega) | assumption) rfl <| .i rfl (by first | rfl | omega | (simp; done) | (simp; omega) | assumption) <| .k rfl rfl <| .k rfl rfl <| .k rfl rfl <| .nil) (.a (by first | rfl | omega | (simp; done) | (simp; omega) | assumption) (by first | rfl | omega | (simp; done) | (simp; omega) | assumption) <| .a (by first | rfl | omega | (simp; done) | (simp; omega) | assumption) (by first | rfl | omega | (simp; done) | (simp; omega) | assumption) <| .k rfl <| .k rfl <| .nil) rfl) ?_ ?_
  · rintro ⟨k, f0⟩ ⟨hk, hst, hkp⟩
    refine Tr.norm (S' := [⟨9, true, _, _⟩, ⟨10, true, _, _⟩, ⟨3, true, _, _⟩, ⟨4, true, _, _⟩, ⟨8, true, _, _⟩]) (M' := [⟨18, _, _⟩, ⟨22, _, _⟩, ⟨3, _, _⟩, ⟨4, _, _⟩]) rfl rfl ?_
    have hlen := bfsTo_len va hg0 k
    have hfl := hst.len
    have hxr := fun h => srch_x va hg0 (k := k) h
    have hin := fun h => hst.inn _ (nth_mem (i := k) h)
    refine Tr.seq ?_
    refine Tr.seq ?_
    refine Tr.rg ?_
    refine TrL.op (ok_move rfl (fun _ => rfl)) rfl rfl ?_
    refine TrL.op (ok_move rfl (fun _ => rfl)) rfl rfl ?_
    refine TrL.op (ok_lenO rfl (fun _ => rfl)) rfl rfl ?_
    refine TrL.op (ok_lss rfl (fun _ => rfl) rfl (fun _ => rfl)) rfl rfl ?_
    refine TrL.fin ?_
    refine End.nxt ?_
    refine Tr.cnd rfl ?_ ?_
    · intro h5
      replace h5 := of_decide_eq_true h5
      have hlt : k < (bfsTo a [] 0 k).length := by omega
      have hx := hxr hlt
      have hx0 := hx.1
      have hx1 := hx.2
      have hz := hin hlt
      have hz0 : 0 ≤ nth f0 (nth (bfsTo a [] 0 k) k).toNat := hz.1
      have hz1 : nth f0 (nth (bfsTo a [] 0 k) k).toNat < b.1.length := hz.2
      have a1 := va.ri (i := (nth (bfsTo a [] 0 k) k).toNat) (by omega)
      have a2 := va.ui (i := (nth (bfsTo a [] 0 k) k).toNat) (by omega)
      refine Tr.skip ?_
      refine End.nxt ?_
      refine Tr.seq ?_
      refine Tr.blk ?_
      refine Tr.seq ?_
      refine Tr.rg ?_
      refine TrL.op (ok_move rfl (fun _ => rfl)) rfl rfl ?_
      refine TrL.op (ok_move rfl (fun _ => rfl)) rfl rfl ?_
      first | refine TrL.op (ok_idxEN rfl (fun _ => rfl) rfl (fun _ => rfl) (fun _ => by omega)) rfl rfl ?_ | refine TrL.op (ok_idxE rfl (fun _ => rfl) rfl (fun _ => rfl) (fun _ => by omega)) rfl rfl ?_
      refine TrL.op (ok_ldE rfl (fun _ => rfl) rfl rfl rfl) rfl rfl ?_
      refine TrL.op (ok_assign rfl (fun _ => rfl)) rfl rfl ?_
      refine TrL.fin ?_
      refine End.nxt ?_
      refine Tr.seq ?_
      refine Tr.draw 30 mixed (by kernel_rfl) ?_
      refine RunD.op (ok_fldO rfl (fun _ => rfl)) rfl rfl ?_
      refine RunD.op (ok_ldB rfl (fun _ => rfl) rfl) rfl rfl ?_
      refine RunD.op (ok_move rfl (fun _ => rfl)) rfl rfl ?_
      first | refine RunD.op (ok_idxN rfl (fun _ => rfl) rfl (fun _ => rfl) rfl (fun _ => by omega)) rfl rfl ?_ | refine RunD.op (ok_idxP rfl (fun _ => rfl) rfl (fun _ => rfl) rfl (fun _ => by omega)) rfl rfl ?_
      refine RunD.op (ok_ldP rfl (fun _ => rfl) rfl) rfl rfl ?_
      refine RunD.op (ok_fldO rfl (fun _ => rfl)) rfl rfl ?_
      refine RunD.op (ok_ldB rfl (fun _ => rfl) rfl) rfl rfl ?_
      refine RunD.op (ok_move rfl (fun _ => rfl)) rfl rfl ?_
      refine RunD.op (ok_move rfl (fun _ => rfl)) rfl rfl ?_
      first | refine RunD.op (ok_idxEN rfl (fun _ => rfl) rfl (fun _ => rfl) (fun _ => by omega)) rfl rfl ?_ | refine RunD.op (ok_idxE rfl (fun _ => rfl) rfl (fun _ => rfl) (fun _ => by omega)) rfl rfl ?_
      refine RunD.op (ok_ldE rfl (fun _ => rfl) rfl rfl rfl) rfl rfl ?_
      first | refine RunD.op (ok_idxN rfl (fun _ => rfl) rfl (fun _ => rfl) rfl (fun _ => by omega)) rfl rfl ?_ | refine RunD.op (ok_idxP rfl (fun _ => rfl) rfl (fun _ => rfl) rfl (fun _ => by omega)) rfl rfl ?_
      refine RunD.op (ok_ldP rfl (fun _ => rfl) rfl) rfl rfl ?_
      refine RunD.op (ok_buildL [(0, 1), (1, 1)] rfl (fun hp => .cons rfl rfl rfl <| .cons rfl rfl rfl <| .nil)) rfl rfl ?_
      refine RunD.op (ok_fldO rfl (fun _ => rfl)) rfl rfl ?_
      refine RunD.op (ok_ldB rfl (fun _ => rfl) rfl) rfl rfl ?_
      refine RunD.op (ok_move rfl (fun _ => rfl)) rfl rfl ?_
      first | refine RunD.op (ok_idxN rfl (fun _ => rfl) rfl (fun _ => rfl) rfl (fun _ => by omega)) rfl rfl ?_ | refine RunD.op (ok_idxP rfl (fun _ => rfl) rfl (fun _ => rfl) rfl (fun _ => by omega)) rfl rfl ?_
      refine RunD.op (ok_ldP rfl (fun _ => rfl) rfl) rfl rfl ?_
      refine RunD.op (ok_fldO rfl (fun _ => rfl)) rfl rfl ?_
      refine RunD.op (ok_ldB rfl (fun _ => rfl) rfl) rfl rfl ?_
      refine RunD.op (ok_move rfl (fun _ => rfl)) rfl rfl ?_
      refine RunD.op (ok_move rfl (fun _ => rfl)) rfl rfl ?_
      first | refine RunD.op (ok_idxEN rfl (fun _ => rfl) rfl (fun _ => rfl) (fun _ => by omega)) rfl rfl ?_ | refine RunD.op (ok_idxE rfl (fun _ => rfl) rfl (fun _ => rfl) (fun _ => by omega)) rfl rfl ?_
      refine RunD.op (ok_ldE rfl (fun _ => rfl) rfl rfl rfl) rfl rfl ?_
      first | refine RunD.op (ok_idxN rfl (fun _ => rfl) rfl (fun _ => rfl) rfl (fun _ => by omega)) rfl rfl ?_ | refine RunD.op (ok_idxP rfl (fun _ => rfl) rfl (fun _ => rfl) rfl (fun _ => by omega)) rfl rfl ?_
      refine RunD.op (ok_ldP rfl (fun _ => rfl) rfl) rfl rfl ?_
      refine RunD.op (ok_buildL [(0, 1), (1, 1)] rfl (fun hp => .cons rfl rfl rfl <| .cons rfl rfl rfl <| .nil)) rfl rfl ?_
      refine RunD.op (ok_buildL [(0, 2), (2, 2)] rfl (fun hp => .cons rfl rfl rfl <| .cons rfl rfl rfl <| .nil)) rfl rfl ?_
      refine RunD.op (ok_move rfl (fun _ => rfl)) rfl rfl ?_
      refine RunD.z ?_
      refine TrL.fin ?_
      refine End.nxt ?_
      refine Tr.for1 (σ := Nat × List Int) [⟨3, true, _, _⟩, ⟨4, true, _, _⟩, ⟨8, true, _, _⟩, ⟨10, true, _, _⟩, ⟨61, true, _, _⟩] [⟨3, _, _⟩, ⟨4, _, _⟩] (fun (j, f) => [⟨9, true, [22], kOsl 22 (srch a [] 0 k j).length⟩, ⟨62, true, [], kI (j : Int)⟩]) (fun (j, f) => [⟨18, [], cArr false 3 eI f a.1.length⟩, ⟨22, [], cArr false 3 eI (srch a [] 0 k j) (srch a [] 0 k j).length⟩]) (fun (j, f) => j ≤ 2 ∧ MpSt a b s k j f0 f) (fun (j, f) => j = 2 ∧ MpSt a b s k 2 f0 f) (fun (j, f) => 2 - j) ((0, f0)) ⟨by omega, MpSt.start hst hkp⟩ (Ent.mk (.o rfl (by first | rfl | omega | (simp; done) | (simp; omega) | assumption) rfl <| .i rfl (by first | rfl | omega | (simp; done) | (simp; omega) | assumption) <| .k rfl rfl <| .k rfl rfl <| .k rfl rfl <| .k rfl rfl <| .k rfl rfl <| .nil) (.a (by first | rfl | omega | (simp; done) | (simp; omega) | assumption) (by first | rfl | omega | (simp; done) | (simp; omega) | assumption) <| .a (by first | rfl | omega | (simp; done) | (simp; omega) | assumption) (by first | rfl | omega | (simp; done) | (simp; omega) | assumption) <| .k rfl <| .k rfl <| .nil) rfl) ?_ ?_
      · rintro ⟨j, f⟩ ⟨hj, hmp⟩
        refine Tr.norm (S' := [⟨9, true, _, _⟩, ⟨62, true, _, _⟩, ⟨3, true, _, _⟩, ⟨4, true, _, _⟩, ⟨8, true, _, _⟩, ⟨10, true, _, _⟩, ⟨61, true, _, _⟩]) (M' := [⟨18, _, _⟩, ⟨22, _, _⟩, ⟨3, _, _⟩, ⟨4, _, _⟩]) rfl rfl ?_
        have hfl2 := hmp.st.len
        have hgl := srch_len (j := j) va hg0 hlt
        refine Tr.seq ?_
        refine Tr.rg ?_
        refine TrL.op (ok_lss rfl (fun _ => rfl) rfl (fun _ => rfl)) rfl rfl ?_
        refine TrL.fin ?_
        refine End.nxt ?_
        refine Tr.seq ?_
        refine Tr.cnd rfl ?_ ?_
        · intro h9
          replace h9 := of_decide_eq_true h9
          have hj2 : j < 2 := by omega
          obtain ⟨hyA, hyB⟩ := nth_fst2 (p := nth a.1 (nth (bfsTo a [] 0 k) k).toNat) (q := nth b.1 (nth f0 (nth (bfsTo a [] 0 k) k).toNat).toNat) (r := nth a.2 (nth (bfsTo a [] 0 k) k).toNat) (s := nth b.2 (nth f0 (nth (bfsTo a [] 0 k) k).toNat).toNat) hj2
          have hy := stp_nth_sq va hx hj2
          have hyS : Sq a.1.length (nth [(nth a.1 (nth (bfsTo a [] 0 k) k).toNat, nth b.1 (nth f0 (nth (bfsTo a [] 0 k) k).toNat).toNat, ()), (nth a.2 (nth (bfsTo a [] 0 k) k).toNat, nth b.2 (nth f0 (nth (bfsTo a [] 0 k) k).toNat).toNat, ())] j).1 := by rw [hyA]; exact hy
          have hy0 := hyS.1
          have hy1 := hyS.2
          refine Tr.skip ?_
          refine End.nxt ?_
          refine Tr.seq ?_
          refine Tr.blk ?_
          refine Tr.seq ?_
          refine Tr.rg ?_
          refine TrL.op (ok_idxAA (eP eI (eP eI eU)) rfl (fun _ => rfl) rfl (fun _ => rfl) rfl rfl rfl (fun _ => ⟨by omega, by simp; omega⟩)) rfl rfl ?_
          refine TrL.new (ok_alloc 13) rfl rfl rfl rfl ?_
          refine TrL.stB rfl rfl rfl rfl ?_
          refine TrL.fin ?_
          refine End.nxt ?_
          refine Tr.seq ?_
          refine Tr.rg ?_
          refine TrL.op (ok_move rfl (fun _ => rfl)) rfl rfl ?_
          refine TrL.op (ok_idxArrO rfl (fun _ => rfl) rfl (fun _ => rfl) (fun _ => by decide)) rfl rfl ?_
          refine TrL.op (ok_ldB rfl (fun _ => rfl) rfl) rfl rfl ?_
          first | refine TrL.op (ok_idxEN rfl (fun _ => rfl) rfl (fun _ => rfl) (fun _ => by omega)) rfl rfl ?_ | refine TrL.op (ok_idxE rfl (fun _ => rfl) rfl (fun _ => rfl) (fun _ => by omega)) rfl rfl ?_
          refine TrL.op (ok_ldE rfl (fun _ => rfl) rfl rfl rfl) rfl rfl ?_
          refine TrL.fin ?_
          refine End.nxt ?_
          refine Tr.blk ?_
          refine Tr.seq ?_
          refine Tr.rg ?_
          refine TrL.op (ok_idxArrO rfl (fun _ => rfl) rfl (fun _ => rfl) (fun _ => by decide)) rfl rfl ?_
          refine TrL.op (ok_ldB rfl (fun _ => rfl) rfl) rfl rfl ?_
          refine TrL.op (ok_eql rfl (fun _ => rfl) rfl (fun _ => rfl)) rfl rfl ?_
          refine TrL.op (ok_assign rfl (fun _ => rfl)) rfl rfl ?_
          refine TrL.fin ?_
          refine End.nxt ?_
          refine Tr.cnd rfl ?_ ?_
          · intro h13
            try simp only [decide_eq_true_eq] at h13
            have hcase : ap f (nth (stp a (nth (bfsTo a [] 0 k) k)) j) = nth (stp b (ap f0 (nth (bfsTo a [] 0 k) k))) j := by rw [hyA, hyB] at h13; exact h13
            refine Tr.skip ?_
            refine End.blk ?_
            refine End.blk ?_
            refine End.nxt ?_
            refine Tr.rg ?_
            refine TrL.op (ok_add rfl (fun _ => rfl) rfl (fun _ => rfl) (fun _ => by omega)) rfl rfl ?_
            refine TrL.op (ok_move rfl (fun _ => rfl)) rfl rfl ?_
            refine TrL.fin ?_
            exact End.lp ((j + 1, f)) ⟨by omega, (hmp.old va hlt hj2 hg0 vb hcase).2⟩ (show 2 - (j + 1) < 2 - j by omega) (Ent.mk (.o rfl (by rw [(hmp.old va hlt hj2 hg0 vb hcase).1]) rfl <| .i rfl (by first | rfl | omega | (simp; done) | (simp; omega) | assumption) <| .k rfl rfl <| .k rfl rfl <| .k rfl rfl <| .k rfl rfl <| .k rfl rfl <| .nil) (.a (by first | rfl | omega | (simp; done) | (simp; omega) | assumption) (by first | rfl | omega | (simp; done) | (simp; omega) | assumption) <| .a (by rw [(hmp.old va hlt hj2 hg0 vb hcase).1]) (by rw [(hmp.old va hlt hj2 hg0 vb hcase).1]) <| .k rfl <| .k rfl <| .nil) rfl)
          · intro h13
            try simp only [decide_eq_false_iff_not] at h13
            have hc1 : ap f (nth (stp a (nth (bfsTo a [] 0 k) k)) j) ≠ nth (stp b (ap f0 (nth (bfsTo a [] 0 k) k))) j := by rw [hyA, hyB] at h13; exact h13
            refine Tr.seq ?_
            refine Tr.rg ?_
            refine TrL.op (ok_eql rfl (fun _ => rfl) rfl (fun _ => rfl)) rfl rfl ?_
            refine TrL.op (ok_assign rfl (fun _ => rfl)) rfl rfl ?_
            refine TrL.fin ?_
            refine End.nxt ?_
            refine Tr.cnd rfl ?_ ?_
            · intro h14
              try simp only [decide_eq_true_eq] at h14
              have hcase : ap f (nth (stp a (nth (bfsTo a [] 0 k) k)) j) = -1 := by rw [hyA] at h14; exact h14
              refine Tr.seq ?_
              refine Tr.rg ?_
              refine TrL.op (ok_move rfl (fun _ => rfl)) rfl rfl ?_
              refine TrL.op (ok_idxArrO rfl (fun _ => rfl) rfl (fun _ => rfl) (fun _ => by decide)) rfl rfl ?_
              refine TrL.op (ok_ldB rfl (fun _ => rfl) rfl) rfl rfl ?_
              refine TrL.op (ok_idxArrO rfl (fun _ => rfl) rfl (fun _ => rfl) (fun _ => by decide)) rfl rfl ?_
              refine TrL.op (ok_ldB rfl (fun _ => rfl) rfl) rfl rfl ?_
              first | refine TrL.op (ok_idxEN rfl (fun _ => rfl) rfl (fun _ => rfl) (fun _ => by omega)) rfl rfl ?_ | refine TrL.op (ok_idxE rfl (fun _ => rfl) rfl (fun _ => rfl) (fun _ => by omega)) rfl rfl ?_
              refine TrL.stE rfl rfl rfl rfl rfl ?_
              refine TrL.fin ?_
              refine End.nxt ?_
              refine Tr.rg ?_
              refine TrL.op (ok_move rfl (fun _ => rfl)) rfl rfl ?_
              refine TrL.op (ok_idxArrO rfl (fun _ => rfl) rfl (fun _ => rfl) (fun _ => by decide)) rfl rfl ?_
              refine TrL.op (ok_ldB rfl (fun _ => rfl) rfl) rfl rfl ?_
              refine TrL.new (ok_bsl eI 85 (fun hp => .cons rfl <| .nil) rfl rfl rfl rfl) rfl rfl rfl rfl ?_
              refine TrL.app rfl rfl rfl rfl rfl rfl rfl rfl (by first | omega | (simp only [List.length_cons, List.length_nil]; omega)) (by first | omega | (simp only [List.length_cons, List.length_nil]; omega)) ?_
              refine TrL.norm (S' := ⟨_, _, _, _⟩ :: ⟨_, _, _, _⟩ :: ⟨_, _, _, _⟩ :: ⟨_, _, _, _⟩ :: ⟨_, _, _, _⟩ :: ⟨_, _, _, _⟩ :: ⟨_, _, _, _⟩ :: ⟨_, _, _, _⟩ :: ⟨_, _, _, _⟩ :: ⟨_, _, _, _⟩ :: ⟨_, _, _, _⟩ :: ⟨_, _, _, _⟩ :: ⟨_, _, _, _⟩ :: ⟨_, _, _, _⟩ :: ⟨_, _, _, _⟩ :: ⟨_, _, _, _⟩ :: ⟨_, _, _, _⟩ :: ⟨_, _, _, _⟩ :: ⟨_, _, _, _⟩ :: ⟨_, _, _, _⟩ :: ⟨_, _, _, _⟩ :: ⟨_, _, _, _⟩ :: ⟨_, _, _, _⟩ :: ⟨_, _, _, _⟩ :: ⟨_, _, _, _⟩ :: ⟨_, _, _, _⟩ :: ⟨_, _, _, _⟩ :: ⟨_, _, _, _⟩ :: ⟨_, _, _, _⟩ :: ⟨_, _, _, _⟩ :: ⟨_, _, _, _⟩ :: ⟨_, _, _, _⟩ :: []) rfl rfl ?_
              refine TrL.op (ok_assign rfl (fun _ => rfl)) rfl rfl ?_
              refine TrL.fin ?_
              refine End.blk ?_
              refine End.blk ?_
              refine End.nxt ?_
              refine Tr.rg ?_
              refine TrL.op (ok_add rfl (fun _ => rfl) rfl (fun _ => rfl) (fun _ => by omega)) rfl rfl ?_
              refine TrL.op (ok_move rfl (fun _ => rfl)) rfl rfl ?_
              refine TrL.fin ?_
              exact End.lp ((j + 1, f.set (nth (stp a (nth (bfsTo a [] 0 k) k)) j).toNat (nth (stp b (ap f0 (nth (bfsTo a [] 0 k) k))) j))) ⟨by omega, (hmp.new va hlt hj2 hg0 vb hcase).2⟩ (show 2 - (j + 1) < 2 - j by omega) (Ent.mk (.o rfl (by rw [(hmp.new va hlt hj2 hg0 vb hcase).1, List.length_append]; rfl) rfl <| .i rfl (by first | rfl | omega | (simp; done) | (simp; omega) | assumption) <| .k rfl rfl <| .k rfl rfl <| .k rfl rfl <| .k rfl rfl <| .k rfl rfl <| .nil) (.a (by rw [hyA, hyB]; rfl) (by first | rfl | omega | (simp; done) | (simp; omega) | assumption) <| .a (by rw [(hmp.new va hlt hj2 hg0 vb hcase).1, hyA]; rfl) (by rw [(hmp.new va hlt hj2 hg0 vb hcase).1, List.length_append]; rfl) <| .k rfl <| .k rfl <| .nil) rfl)
            · intro h14
              try simp only [decide_eq_false_iff_not] at h14
              have hno := hmp.clash va hlt hj2 hc1 (by rw [hyA] at h14; exact h14)
              refine Tr.seq ?_
              refine Tr.rg ?_
              refine TrL.op (ok_assign rfl (fun _ => rfl)) rfl rfl ?_
              refine TrL.op (ok_assign rfl (fun _ => rfl)) rfl rfl ?_
              refine TrL.fin ?_
              refine End.nxt ?_
              refine Tr.ret ?_
              refine Rts.out ?_
              refine Rts.out ?_
              refine Rts.thn ?_
              refine Rts.thn ?_
              refine Rts.out ?_
              refine Rts.thn ?_
              refine Rts.out ?_
              refine Rts.thn ?_
              refine Rts.thn ?_
              refine Rts.out ?_
              refine Rts.thn ?_
              refine Rts.thn ?_
              exact Rts.res (fn := Try.f124) (ts := [6, 7]) rfl rfl (.ifF rfl (by rw [hno]; rfl) (fun _ _ h => h) <| .b rfl (by rw [hno]; rfl) <| .nil)
        · intro h9
          replace h9 := Int.not_lt.1 (of_decide_eq_false h9)
          refine Tr.exit ?_
          refine Exs.thn ?_
          refine Exs.thn ?_
          refine Exs.here ?_
          exact End.cut ((j, f)) (by (obtain rfl : j = 2 := by omega); exact ⟨rfl, hmp⟩) (Ent.mk (.o rfl (by first | rfl | omega | (simp; done) | (simp; omega) | assumption) rfl <| .i rfl (by first | rfl | omega | (simp; done) | (simp; omega) | assumption) <| .k rfl rfl <| .k rfl rfl <| .k rfl rfl <| .k rfl rfl <| .k rfl rfl <| .nil) (.a (by first | rfl | omega | (simp; done) | (simp; omega) | assumption) (by first | rfl | omega | (simp; done) | (simp; omega) | assumption) <| .a (by first | rfl | omega | (simp; done) | (simp; omega) | assumption) (by first | rfl | omega | (simp; done) | (simp; omega) | assumption) <| .k rfl <| .k rfl <| .nil) rfl)
      · rintro ⟨j, f⟩ ⟨hj2, hmp⟩
        refine End.norm (S' := [⟨9, true, _, _⟩, ⟨62, true, _, _⟩, ⟨3, true, _, _⟩, ⟨4, true, _, _⟩, ⟨8, true, _, _⟩, ⟨10, true, _, _⟩, ⟨61, true, _, _⟩]) (M' := [⟨18, _, _⟩, ⟨22, _, _⟩, ⟨3, _, _⟩, ⟨4, _, _⟩]) rfl rfl ?_
        subst hj2
        refine End.blk ?_
        refine End.nxt ?_
        refine Tr.rg ?_
        refine TrL.op (ok_move rfl (fun _ => rfl)) rfl rfl ?_
        refine TrL.op (ok_add rfl (fun _ => rfl) rfl (fun _ => rfl) (fun _ => by omega)) rfl rfl ?_
        refine TrL.op (ok_assign rfl (fun _ => rfl)) rfl rfl ?_
        refine TrL.fin ?_
        exact End.lp ((k + 1, f)) ⟨by omega, hmp.fin hlt⟩ (show a.1.length - (k + 1) < a.1.length - k by omega) (Ent.mk (.o rfl (by rw [srch_two hlt]) rfl <| .i rfl (by first | rfl | omega | (simp; done) | (simp; omega) | assumption) <| .k rfl rfl <| .k rfl rfl <| .k rfl rfl <| .nil) (.a (by first | rfl | omega | (simp; done) | (simp; omega) | assumption) (by first | rfl | omega | (simp; done) | (simp; omega) | assumption) <| .a (by rw [srch_two hlt]) (by rw [srch_two hlt]) <| .k rfl <| .k rfl <| .nil) rfl)
    · intro h5
      replace h5 := Int.not_lt.1 (of_decide_eq_false h5)
      refine Tr.exit ?_
      refine Exs.thn ?_
      refine Exs.thn ?_
      refine Exs.here ?_
      exact End.cut ((k, f0)) (map_end va ca hg0 (by omega) hst hkp) (Ent.mk (.o rfl (by first | rfl | omega | (simp; done) | (simp; omega) | assumption) rfl <| .i rfl (by first | rfl | omega | (simp; done) | (simp; omega) | assumption) <| .k rfl rfl <| .k rfl rfl <| .k rfl rfl <| .nil) (.a (by first | rfl | omega | (simp; done) | (simp; omega) | assumption) (by first | rfl | omega | (simp; done) | (simp; omega) | assumption) <| .a (by first | rfl | omega | (simp; done) | (simp; omega) | assumption) (by first | rfl | omega | (simp; done) | (simp; omega) | assumption) <| .k rfl <| .k rfl <| .nil) rfl)
  · rintro ⟨k, f0⟩ hE0
    refine End.norm (S' := [⟨9, true, _, _⟩, ⟨10, true, _, _⟩, ⟨3, true, _, _⟩, ⟨4, true, _, _⟩, ⟨8, true, _, _⟩]) (M' := [⟨18, _, _⟩, ⟨22, _, _⟩, ⟨3, _, _⟩, ⟨4, _, _⟩]) rfl rfl ?_
    refine End.nxt ?_
    refine Tr.seq ?_
    refine Tr.rg ?_
    refine TrL.op (ok_move rfl (fun _ => rfl)) rfl rfl ?_
    refine TrL.op (ok_assign rfl (fun _ => rfl)) rfl rfl ?_
    refine TrL.op (ok_assign rfl (fun _ => rfl)) rfl rfl ?_
    refine TrL.fin ?_
    refine End.nxt ?_
    refine Tr.frz 18 [6] ⟨rfl, trivial⟩ (by simp only [lenMax]; omega) rfl ?_
    refine Tr.ret ?_
    exact Rts.res (fn := Try.f124) (ts := [6, 7]) rfl rfl (.ifT rfl (by rw [hE0]; rfl) (fun _ _ h => by rw [hE0]; exact h) <| .b rfl (by rw [hE0]; rfl) <| .nil)

set_option maxRecDepth 100000 in
theorem ct_maps (a b : Ori) (va : Valid a) (ca : Conn a) (vb : Valid b) : Ct Try.prog 100 [kRd eO a, kRd eO b] (kRd (eL (eL eI)) (mapsL a b)) := by
  have hv2 := vb.le
  refine Ct.mk Try.func100 rfl Try.ntmps100 rfl (fun w J => ?_)
  refine Tr.seq ?_
  refine Tr.rg ?_
  refine TrL.new (ok_box 2 rfl (fun _ => rfl) rfl) rfl rfl rfl rfl ?_
  refine TrL.new (ok_box 3 rfl (fun _ => rfl) rfl) rfl rfl rfl rfl ?_
  refine TrL.op (ok_assign rfl (fun _ => rfl)) rfl rfl ?_
  refine TrL.fin ?_
  refine End.nxt ?_
  refine Tr.seq ?_
  refine Tr.rg ?_
  refine TrL.op (ok_assign rfl (fun _ => rfl)) rfl rfl ?_
  refine TrL.fin ?_
  refine End.nxt ?_
  refine Tr.seq ?_
  refine Tr.seq ?_
  refine Tr.rg ?_
  refine TrL.op (ok_fldO rfl (fun _ => rfl)) rfl rfl ?_
  refine TrL.op (ok_ldB rfl (fun _ => rfl) rfl) rfl rfl ?_
  refine TrL.op (ok_lenJ rfl (fun _ => rfl)) rfl rfl ?_
  refine TrL.op (ok_move rfl (fun _ => rfl)) rfl rfl ?_
  refine TrL.fin ?_
  refine End.nxt ?_
  refine Tr.grow (s := 5) rfl rfl 5 rfl 22 (eL eI) rfl ?_
  refine Tr.for1 (σ := Nat) [⟨2, true, _, _⟩, ⟨3, true, _, _⟩, ⟨11, true, _, _⟩] [⟨2, _, _⟩, ⟨3, _, _⟩] (fun k => [⟨5, true, [5], kOsl 5 (mapsTo a b k).length⟩, ⟨12, true, [], kI (k : Int)⟩]) (fun k => [⟨5, [], cArr true 22 (eL eI) (mapsTo a b k) (mapsTo a b k).length⟩]) (fun k => k ≤ b.1.length) (fun k => k = b.1.length) (fun k => b.1.length - k) (0) (Nat.zero_le _) (Ent.mk (.o rfl (by first | rfl | omega | (simp; done) | (simp; omega) | assumption) rfl <| .i rfl (by first | rfl | omega | (simp; done) | (simp; omega) | assumption) <| .k rfl rfl <| .k rfl rfl <| .k rfl rfl <| .nil) (.a (by rfl) (by first | rfl | omega | (simp; done) | (simp; omega) | assumption) <| .k rfl <| .k rfl <| .nil) rfl) ?_ ?_
  · intro k hR0
    refine Tr.norm (S' := [⟨5, true, _, _⟩, ⟨12, true, _, _⟩, ⟨2, true, _, _⟩, ⟨3, true, _, _⟩, ⟨11, true, _, _⟩]) (M' := [⟨5, _, _⟩, ⟨2, _, _⟩, ⟨3, _, _⟩]) rfl rfl ?_
    have hml := mapsTo_len (a := a) (b := b) (k := k)
    refine Tr.seq ?_
    refine Tr.rg ?_
    refine TrL.op (ok_lss rfl (fun _ => rfl) rfl (fun _ => rfl)) rfl rfl ?_
    refine TrL.fin ?_
    refine End.nxt ?_
    refine Tr.seq ?_
    refine Tr.cnd rfl ?_ ?_
    · intro h3
      replace h3 := of_decide_eq_true h3
      have hks : Sq b.1.length (k : Int) := Sq.nat (by omega)
      refine Tr.skip ?_
      refine End.nxt ?_
      refine Tr.seq ?_
      refine Tr.blk ?_
      refine Tr.seq ?_
      refine Tr.rg ?_
      refine TrL.op (ok_move rfl (fun _ => rfl)) rfl rfl ?_
      refine TrL.op (ok_assign rfl (fun _ => rfl)) rfl rfl ?_
      refine TrL.fin ?_
      refine End.nxt ?_
      refine Tr.seq ?_
      refine Tr.rg ?_
      refine TrL.op (ok_ldBS rfl (fun _ => rfl)) rfl rfl ?_
      refine TrL.op (ok_ldBS rfl (fun _ => rfl)) rfl rfl ?_
      refine TrL.op (ok_move rfl (fun _ => rfl)) rfl rfl ?_
      refine TrL.op (ok_call (fun hp => ct_mapTo _ _ _ va ca vb hks) (.s rfl (fun _ => rfl) rfl <| .s rfl (fun _ => rfl) rfl <| .a rfl (fun _ => rfl) <| .nil)) rfl rfl ?_
      refine TrL.op (ok_move rfl (fun _ => rfl)) rfl rfl ?_
      refine TrL.op (ok_ext rfl (fun _ => rfl) rfl) rfl rfl ?_
      refine TrL.op (ok_ext rfl (fun _ => rfl) rfl) rfl rfl ?_
      refine TrL.op (ok_assign rfl (fun _ => rfl)) rfl rfl ?_
      refine TrL.op (ok_assign rfl (fun _ => rfl)) rfl rfl ?_
      refine TrL.fin ?_
      refine End.nxt ?_
      refine Tr.seq ?_
      refine Tr.rg ?_
      refine TrL.op (ok_move rfl (fun _ => rfl)) rfl rfl ?_
      refine TrL.fin ?_
      refine End.nxt ?_
      refine Tr.cnd rfl ?_ ?_
      · intro h6
        have hsm : homAt a b k = some ((homAt a b k).getD []) := opt_get h6
        refine Tr.ifT (s := 7) rfl h6 rfl ?_
        refine Tr.rg ?_
        refine TrL.op (ok_move rfl (fun _ => rfl)) rfl rfl ?_
        refine TrL.op (ok_move rfl (fun _ => rfl)) rfl rfl ?_
        refine TrL.new (ok_bsl (eL eI) 25 (fun hp => .cons rfl <| .nil) rfl rfl rfl rfl) rfl rfl rfl rfl ?_
        refine TrL.app rfl rfl rfl rfl rfl rfl rfl rfl (by first | omega | (simp only [List.length_cons, List.length_nil]; omega)) (by first | omega | (simp only [List.length_cons, List.length_nil]; omega)) ?_
        refine TrL.norm (S' := [⟨_, _, _, _⟩, ⟨_, _, _, _⟩, ⟨_, _, _, _⟩, ⟨_, _, _, _⟩, ⟨_, _, _, _⟩, ⟨_, _, _, _⟩, ⟨_, _, _, _⟩, ⟨_, _, _, _⟩, ⟨_, _, _, _⟩, ⟨_, _, _, _⟩, ⟨_, _, _, _⟩, ⟨_, _, _, _⟩, ⟨_, _, _, _⟩, ⟨_, _, _, _⟩, ⟨_, _, _, _⟩, ⟨_, _, _, _⟩, ⟨_, _, _, _⟩, ⟨_, _, _, _⟩, ⟨_, _, _, _⟩, ⟨_, _, _, _⟩, ⟨_, _, _, _⟩, ⟨_, _, _, _⟩, ⟨_, _, _, _⟩]) rfl rfl ?_
        refine TrL.op (ok_assign rfl (fun _ => rfl)) rfl rfl ?_
        refine TrL.fin ?_
        refine End.blk ?_
        refine End.nxt ?_
        refine Tr.rg ?_
        refine TrL.op (ok_add rfl (fun _ => rfl) rfl (fun _ => rfl) (fun _ => by omega)) rfl rfl ?_
        refine TrL.op (ok_move rfl (fun _ => rfl)) rfl rfl ?_
        refine TrL.fin ?_
        exact End.lp (k + 1) (by first | rfl | omega | (simp; done) | (simp; omega) | assumption) (by omega) (Ent.mk (.o rfl (by rw [mapsTo_some hsm, List.length_append]) rfl <| .i rfl (by first | rfl | omega | (simp; done) | (simp; omega) | assumption) <| .k rfl rfl <| .k rfl rfl <| .k rfl rfl <| .nil) (.a (by rw [mapsTo_some hsm]) (by rw [mapsTo_some hsm, List.length_append]) <| .k rfl <| .k rfl <| .nil) rfl)
      · intro h6
        have hsm : homAt a b k = none := opt_none h6
        refine Tr.skip ?_
        refine End.blk ?_
        refine End.nxt ?_
        refine Tr.rg ?_
        refine TrL.op (ok_add rfl (fun _ => rfl) rfl (fun _ => rfl) (fun _ => by omega)) rfl rfl ?_
        refine TrL.op (ok_move rfl (fun _ => rfl)) rfl rfl ?_
        refine TrL.fin ?_
        exact End.lp (k + 1) (by first | rfl | omega | (simp; done) | (simp; omega) | assumption) (by omega) (Ent.mk (.o rfl (by rw [mapsTo_none hsm]) rfl <| .i rfl (by first | rfl | omega | (simp; done) | (simp; omega) | assumption) <| .k rfl rfl <| .k rfl rfl <| .k rfl rfl <| .nil) (.a (by rw [mapsTo_none hsm]) (by rw [mapsTo_none hsm]) <| .k rfl <| .k rfl <| .nil) rfl)
    · intro h3
      replace h3 := Int.not_lt.1 (of_decide_eq_false h3)
      refine Tr.exit ?_
      refine Exs.thn ?_
      refine Exs.thn ?_
      refine Exs.here ?_
      exact End.cut (k) (by omega) (Ent.mk (.o rfl (by first | rfl | omega | (simp; done) | (simp; omega) | assumption) rfl <| .i rfl (by first | rfl | omega | (simp; done) | (simp; omega) | assumption) <| .k rfl rfl <| .k rfl rfl <| .k rfl rfl <| .nil) (.a (by first | rfl | omega | (simp; done) | (simp; omega) | assumption) (by first | rfl | omega | (simp; done) | (simp; omega) | assumption) <| .k rfl <| .k rfl <| .nil) rfl)
  · rintro _ rfl
    refine End.norm (S' := [⟨5, true, _, _⟩, ⟨12, true, _, _⟩, ⟨2, true, _, _⟩, ⟨3, true, _, _⟩, ⟨11, true, _, _⟩]) (M' := [⟨5, _, _⟩, ⟨2, _, _⟩, ⟨3, _, _⟩]) rfl rfl ?_
    have hml := mapsTo_len (a := a) (b := b) (k := b.1.length)
    refine End.nxt ?_
    refine Tr.seq ?_
    refine Tr.rg ?_
    refine TrL.op (ok_move rfl (fun _ => rfl)) rfl rfl ?_
    refine TrL.op (ok_assign rfl (fun _ => rfl)) rfl rfl ?_
    refine TrL.fin ?_
    refine End.nxt ?_
    refine Tr.frz 5 [4] ⟨rfl, trivial⟩ (by simp only [lenMax]; omega) rfl ?_
    refine Tr.ret ?_
    exact Rts.res1 (fn := Try.f100) rfl (.r rfl (by first | rfl | omega | (simp; done) | (simp; omega) | assumption) <| .nil)

set_option maxRecDepth 100000 in
set_option maxHeartbeats 1000000 in
theorem ct_rMapTo (a b : Ori) (s : Int) (va : Valid a) (ca : Conn a) (vb : Valid b) (hs : Sq b.1.length s) : Ct Try.prog 101 [kRd eO a, kRd eO b, kI s] (kTup [kRd (eL eI) (mtF a b s a.1.length), kB (isMapB a b (mtF a b s a.1.length))]) := by
  have hv0 := va.pos
  have hv1 := va.len
  have hv2 := va.le
  have hw1 := vb.len
  have hs0 := hs.1
  have hs1 := hs.2
  refine Ct.mk Try.func101 rfl Try.ntmps101 rfl (fun w J => ?_)
  refine Tr.seq ?_
  refine Tr.rg ?_
  refine TrL.new (ok_box 3 rfl (fun _ => rfl) rfl) rfl rfl rfl rfl ?_
  refine TrL.new (ok_box 4 rfl (fun _ => rfl) rfl) rfl rfl rfl rfl ?_
  refine TrL.op (ok_assign rfl (fun _ => rfl)) rfl rfl ?_
  refine TrL.op (ok_assign rfl (fun _ => rfl)) rfl rfl ?_
  refine TrL.fin ?_
  refine End.nxt ?_
  refine Tr.seq ?_
  refine Tr.rg ?_
  refine TrL.op (ok_ldBS rfl (fun _ => rfl)) rfl rfl ?_
  refine TrL.op (ok_call (fun hp => ct_rSize _) (.s rfl (fun _ => rfl) rfl <| .nil)) rfl rfl ?_
  refine TrL.new (ok_makeN eI 14 rfl (fun _ => rfl) rfl (fun _ => rfl) rfl rfl rfl (fun _ => by omega)) rfl rfl rfl rfl ?_
  refine TrL.op (ok_assign rfl (fun _ => rfl)) rfl rfl ?_
  refine TrL.fin ?_
  refine End.nxt ?_
  refine Tr.seq ?_
  refine Tr.seq ?_
  refine Tr.rg ?_
  refine TrL.op (ok_assign rfl (fun _ => rfl)) rfl rfl ?_
  refine TrL.fin ?_
  refine End.nxt ?_
  refine Tr.for1 (σ := Nat) [⟨2, true, _, _⟩, ⟨3, true, _, _⟩, ⟨4, true, _, _⟩, ⟨8, true, _, _⟩] [⟨3, _, _⟩, ⟨4, _, _⟩] (fun k => [⟨9, true, [], kI (k : Int)⟩]) (fun k => [⟨14, [], cArr false 3 eI (fillTo 0 (fun _ => (-1 : Int)) a.1.length k) a.1.length⟩]) (fun k => k ≤ a.1.length) (fun k => k = a.1.length) (fun k => a.1.length - k) (0) (Nat.zero_le _) (Ent.mk (.i rfl (by first | rfl | omega | (simp; done) | (simp; omega) | assumption) <| .k rfl rfl <| .k rfl rfl <| .k rfl rfl <| .k rfl rfl <| .nil) (.a fillTo_zero (by first | rfl | omega | (simp; done) | (simp; omega) | assumption) <| .k rfl <| .k rfl <| .nil) rfl) ?_ ?_
  · intro k hR0
    refine Tr.norm (S' := [⟨9, true, _, _⟩, ⟨2, true, _, _⟩, ⟨3, true, _, _⟩, ⟨4, true, _, _⟩, ⟨8, true, _, _⟩]) (M' := [⟨14, _, _⟩, ⟨3, _, _⟩, ⟨4, _, _⟩]) rfl rfl ?_
    refine Tr.seq ?_
    refine Tr.seq ?_
    refine Tr.rg ?_
    refine TrL.op (ok_move rfl (fun _ => rfl)) rfl rfl ?_
    refine TrL.op (ok_ldBS rfl (fun _ => rfl)) rfl rfl ?_
    refine TrL.op (ok_call (fun hp => ct_rSize _) (.s rfl (fun _ => rfl) rfl <| .nil)) rfl rfl ?_
    refine TrL.op (ok_lss rfl (fun _ => rfl) rfl (fun _ => rfl)) rfl rfl ?_
    refine TrL.fin ?_
    refine End.nxt ?_
    refine Tr.cnd rfl ?_ ?_
    · intro h3
      replace h3 := of_decide_eq_true h3
      refine Tr.skip ?_
      refine End.nxt ?_
      refine Tr.seq ?_
      refine Tr.blk ?_
      refine Tr.rg ?_
      refine TrL.op (ok_move rfl (fun _ => rfl)) rfl rfl ?_
      refine TrL.op (ok_move rfl (fun _ => rfl)) rfl rfl ?_
      first | refine TrL.op (ok_idxEN rfl (fun _ => rfl) rfl (fun _ => rfl) (fun _ => by omega)) rfl rfl ?_ | refine TrL.op (ok_idxE rfl (fun _ => rfl) rfl (fun _ => rfl) (fun _ => by omega)) rfl rfl ?_
      refine TrL.stE rfl rfl rfl rfl rfl ?_
      refine TrL.fin ?_
      refine End.blk ?_
      refine End.nxt ?_
      refine Tr.rg ?_
      refine TrL.op (ok_move rfl (fun _ => rfl)) rfl rfl ?_
      refine TrL.op (ok_add rfl (fun _ => rfl) rfl (fun _ => rfl) (fun _ => by omega)) rfl rfl ?_
      refine TrL.op (ok_assign rfl (fun _ => rfl)) rfl rfl ?_
      refine TrL.fin ?_
      exact End.lp (k + 1) (by first | rfl | omega | (simp; done) | (simp; omega) | assumption) (by omega) (Ent.mk (.i rfl (by first | rfl | omega | (simp; done) | (simp; omega) | assumption) <| .k rfl rfl <| .k rfl rfl <| .k rfl rfl <| .k rfl rfl <| .nil) (.a (by rw [← fillTo_succ]) (by first | rfl | omega | (simp; done) | (simp; omega) | assumption) <| .k rfl <| .k rfl <| .nil) rfl)
    · intro h3
      replace h3 := Int.not_lt.1 (of_decide_eq_false h3)
      refine Tr.exit ?_
      refine Exs.thn ?_
      refine Exs.thn ?_
      refine Exs.here ?_
      exact End.cut (k) (by omega) (Ent.mk (.i rfl (by first | rfl | omega | (simp; done) | (simp; omega) | assumption) <| .k rfl rfl <| .k rfl rfl <| .k rfl rfl <| .k rfl rfl <| .nil) (.a (by first | rfl | omega | (simp; done) | (simp; omega) | assumption) (by first | rfl | omega | (simp; done) | (simp; omega) | assumption) <| .k rfl <| .k rfl <| .nil) rfl)
  · rintro _ rfl
    refine End.norm (S' := [⟨9, true, _, _⟩, ⟨2, true, _, _⟩, ⟨3, true, _, _⟩, ⟨4, true, _, _⟩, ⟨8, true, _, _⟩]) (M' := [⟨14, _, _⟩, ⟨3, _, _⟩, ⟨4, _, _⟩]) rfl rfl ?_
    refine End.nxt ?_
    refine Tr.seq ?_
    refine Tr.rg ?_
    refine TrL.op (ok_move rfl (fun _ => rfl)) rfl rfl ?_
    refine TrL.op (ok_move rfl (fun _ => rfl)) rfl rfl ?_
    first | refine TrL.op (ok_idxEN rfl (fun _ => rfl) rfl (fun _ => rfl) (fun _ => by omega)) rfl rfl ?_ | refine TrL.op (ok_idxE rfl (fun _ => rfl) rfl (fun _ => rfl) (fun _ => by omega)) rfl rfl ?_
    refine TrL.stE rfl rfl rfl rfl rfl ?_
    refine TrL.fin ?_
    refine End.nxt ?_
    refine Tr.seq ?_
    refine Tr.seq ?_
    refine Tr.rg ?_
    refine TrL.op (ok_assign rfl (fun _ => rfl)) rfl rfl ?_
    refine TrL.fin ?_
    refine End.nxt ?_
    refine Tr.for1 (σ := Nat) [⟨3, true, _, _⟩, ⟨4, true, _, _⟩, ⟨8, true, _, _⟩] [⟨3, _, _⟩, ⟨4, _, _⟩] (fun r => [⟨10, true, [], kI (r : Int)⟩]) (fun r => [⟨14, [], cArr false 3 eI (mtF a b s r) a.1.length⟩]) (fun r => r ≤ a.1.length) (fun r => r = a.1.length) (fun r => a.1.length - r) (0) (Nat.zero_le _) (Ent.mk (.i rfl (by first | rfl | omega | (simp; done) | (simp; omega) | assumption) <| .k rfl rfl <| .k rfl rfl <| .k rfl rfl <| .nil) (.a (by rw [mt_fill]; rfl) (by first | rfl | omega | (simp; done) | (simp; omega) | assumption) <| .k rfl <| .k rfl <| .nil) rfl) ?_ ?_
    · intro r hR1
      refine Tr.norm (S' := [⟨10, true, _, _⟩, ⟨3, true, _, _⟩, ⟨4, true, _, _⟩, ⟨8, true, _, _⟩]) (M' := [⟨14, _, _⟩, ⟨3, _, _⟩, ⟨4, _, _⟩]) rfl rfl ?_
      have hmr := MtSt.all va vb hs (r := r)
      refine Tr.seq ?_
      refine Tr.seq ?_
      refine Tr.rg ?_
      refine TrL.op (ok_move rfl (fun _ => rfl)) rfl rfl ?_
      refine TrL.op (ok_ldBS rfl (fun _ => rfl)) rfl rfl ?_
      refine TrL.op (ok_call (fun hp => ct_rSize _) (.s rfl (fun _ => rfl) rfl <| .nil)) rfl rfl ?_
      refine TrL.op (ok_lss rfl (fun _ => rfl) rfl (fun _ => rfl)) rfl rfl ?_
      refine TrL.fin ?_
      refine End.nxt ?_
      refine Tr.cnd rfl ?_ ?_
      · intro h8
        replace h8 := of_decide_eq_true h8
        refine Tr.skip ?_
        refine End.nxt ?_
        refine Tr.seq ?_
        refine Tr.blk ?_
        refine Tr.seq ?_
        refine Tr.rg ?_
        refine TrL.op (ok_assign rfl (fun _ => rfl)) rfl rfl ?_
        refine TrL.fin ?_
        refine End.nxt ?_
        refine Tr.for1 (σ := Nat) [⟨3, true, _, _⟩, ⟨4, true, _, _⟩, ⟨8, true, _, _⟩, ⟨10, true, _, _⟩] [⟨3, _, _⟩, ⟨4, _, _⟩] (fun x => [⟨11, true, [], kI (x : Int)⟩]) (fun x => [⟨14, [], cArr false 3 eI (mtTo a b (mtF a b s r) x) a.1.length⟩]) (fun x => x ≤ a.1.length) (fun x => x = a.1.length) (fun x => a.1.length - x) (0) (Nat.zero_le _) (Ent.mk (.i rfl (by first | rfl | omega | (simp; done) | (simp; omega) | assumption) <| .k rfl rfl <| .k rfl rfl <| .k rfl rfl <| .k rfl rfl <| .nil) (.a (by rfl) (by first | rfl | omega | (simp; done) | (simp; omega) | assumption) <| .k rfl <| .k rfl <| .nil) rfl) ?_ ?_
        · intro x hR2
          refine Tr.norm (S' := [⟨11, true, _, _⟩, ⟨3, true, _, _⟩, ⟨4, true, _, _⟩, ⟨8, true, _, _⟩, ⟨10, true, _, _⟩]) (M' := [⟨14, _, _⟩, ⟨3, _, _⟩, ⟨4, _, _⟩]) rfl rfl ?_
          have hmx := fun h => hmr.to va vb (x := x) h
          have hml := fun h => (hmx h).len
          refine Tr.seq ?_
          refine Tr.seq ?_
          refine Tr.rg ?_
          refine TrL.op (ok_move rfl (fun _ => rfl)) rfl rfl ?_
          refine TrL.op (ok_ldBS rfl (fun _ => rfl)) rfl rfl ?_
          refine TrL.op (ok_call (fun hp => ct_rSize _) (.s rfl (fun _ => rfl) rfl <| .nil)) rfl rfl ?_
          refine TrL.op (ok_lss rfl (fun _ => rfl) rfl (fun _ => rfl)) rfl rfl ?_
          refine TrL.fin ?_
          refine End.nxt ?_
          refine Tr.cnd rfl ?_ ?_
          · intro h11
            replace h11 := of_decide_eq_true h11
            have hml2 := hml (by omega)
            have a1 := va.ri (i := x) (by omega)
            have a2 := va.ui (i := x) (by omega)
            refine Tr.skip ?_
            refine End.nxt ?_
            refine Tr.seq ?_
            refine Tr.blk ?_
            refine Tr.seq ?_
            refine Tr.rg ?_
            refine TrL.op (ok_move rfl (fun _ => rfl)) rfl rfl ?_
            refine TrL.op (ok_move rfl (fun _ => rfl)) rfl rfl ?_
            first | refine TrL.op (ok_idxEN rfl (fun _ => rfl) rfl (fun _ => rfl) (fun _ => by omega)) rfl rfl ?_ | refine TrL.op (ok_idxE rfl (fun _ => rfl) rfl (fun _ => rfl) (fun _ => by omega)) rfl rfl ?_
            refine TrL.op (ok_ldE rfl (fun _ => rfl) rfl rfl rfl) rfl rfl ?_
            refine TrL.op (ok_geq rfl (fun _ => rfl) rfl (fun _ => rfl)) rfl rfl ?_
            refine TrL.fin ?_
            refine End.nxt ?_
            refine Tr.cnd rfl ?_ ?_
            · intro h13
              replace h13 := of_decide_eq_true h13
              have hq : Sq b.1.length (nth (mtTo a b (mtF a b s r) x) x) := (by rcases (hmx (by omega)).rng x (Sq.nat (by omega)) with e | e; simp only [ap, Int.toNat_natCast] at e; omega; simpa [ap] using e)
              have hq0 := hq.1
              have hq1 := hq.2
              refine Tr.drawS 29 14 mixed (by kernel_rfl) ?_
              refine RunS.opA (ok_move rfl (fun _ => rfl)) (by kernel_rfl) rfl rfl ?_
              refine RunS.opA (ok_fldO rfl (fun _ => rfl)) (by kernel_rfl) rfl rfl ?_
              refine RunS.opA (ok_ldB rfl (fun _ => rfl) rfl) (by kernel_rfl) rfl rfl ?_
              refine RunS.opA (ok_move rfl (fun _ => rfl)) (by kernel_rfl) rfl rfl ?_
              first | refine RunS.opA (ok_idxN rfl (fun _ => rfl) rfl (fun _ => rfl) rfl (fun _ => by omega)) (by kernel_rfl) rfl rfl ?_ | refine RunS.opA (ok_idxP rfl (fun _ => rfl) rfl (fun _ => rfl) rfl (fun _ => by omega)) (by kernel_rfl) rfl rfl ?_
              refine RunS.opA (ok_ldP rfl (fun _ => rfl) rfl) (by kernel_rfl) rfl rfl ?_
              refine RunS.op (ok_move rfl (fun _ => rfl)) rfl rfl ?_
              refine RunS.opA (ok_fldO rfl (fun _ => rfl)) (by kernel_rfl) rfl rfl ?_
              refine RunS.opA (ok_ldB rfl (fun _ => rfl) rfl) (by kernel_rfl) rfl rfl ?_
              refine RunS.opA (ok_move rfl (fun _ => rfl)) (by kernel_rfl) rfl rfl ?_
              first | refine RunS.opA (ok_idxN rfl (fun _ => rfl) rfl (fun _ => rfl) rfl (fun _ => by omega)) (by kernel_rfl) rfl rfl ?_ | refine RunS.opA (ok_idxP rfl (fun _ => rfl) rfl (fun _ => rfl) rfl (fun _ => by omega)) (by kernel_rfl) rfl rfl ?_
              refine RunS.opA (ok_ldP rfl (fun _ => rfl) rfl) (by kernel_rfl) rfl rfl ?_
              refine RunS.opA (ok_fldO rfl (fun _ => rfl)) (by kernel_rfl) rfl rfl ?_
              refine RunS.opA (ok_ldB rfl (fun _ => rfl) rfl) (by kernel_rfl) rfl rfl ?_
              refine RunS.opA (ok_move rfl (fun _ => rfl)) (by kernel_rfl) rfl rfl ?_
              refine RunS.opA (ok_move rfl (fun _ => rfl)) (by kernel_rfl) rfl rfl ?_
              first | refine RunS.opA (ok_idxEN rfl (fun _ => rfl) rfl (fun _ => rfl) (fun _ => by omega)) (by kernel_rfl) rfl rfl ?_ | refine RunS.opA (ok_idxE rfl (fun _ => rfl) rfl (fun _ => rfl) (fun _ => by omega)) (by kernel_rfl) rfl rfl ?_
              refine RunS.opA (ok_ldE rfl (fun _ => rfl) rfl rfl rfl) (by kernel_rfl) rfl rfl ?_
              first | refine RunS.opA (ok_idxN rfl (fun _ => rfl) rfl (fun _ => rfl) rfl (fun _ => by omega)) (by kernel_rfl) rfl rfl ?_ | refine RunS.opA (ok_idxP rfl (fun _ => rfl) rfl (fun _ => rfl) rfl (fun _ => by omega)) (by kernel_rfl) rfl rfl ?_
              refine RunS.opA (ok_ldP rfl (fun _ => rfl) rfl) (by kernel_rfl) rfl rfl ?_
              refine RunS.opA (ok_fldO rfl (fun _ => rfl)) (by kernel_rfl) rfl rfl ?_
              refine RunS.opA (ok_ldB rfl (fun _ => rfl) rfl) (by kernel_rfl) rfl rfl ?_
              refine RunS.opA (ok_move rfl (fun _ => rfl)) (by kernel_rfl) rfl rfl ?_
              refine RunS.opA (ok_move rfl (fun _ => rfl)) (by kernel_rfl) rfl rfl ?_
              first | refine RunS.opA (ok_idxEN rfl (fun _ => rfl) rfl (fun _ => rfl) (fun _ => by omega)) (by kernel_rfl) rfl rfl ?_ | refine RunS.opA (ok_idxE rfl (fun _ => rfl) rfl (fun _ => rfl) (fun _ => by omega)) (by kernel_rfl) rfl rfl ?_
              refine RunS.opA (ok_ldE rfl (fun _ => rfl) rfl rfl rfl) (by kernel_rfl) rfl rfl ?_
              first | refine RunS.opA (ok_idxN rfl (fun _ => rfl) rfl (fun _ => rfl) rfl (fun _ => by omega)) (by kernel_rfl) rfl rfl ?_ | refine RunS.opA (ok_idxP rfl (fun _ => rfl) rfl (fun _ => rfl) rfl (fun _ => by omega)) (by kernel_rfl) rfl rfl ?_
              refine RunS.opA (ok_ldP rfl (fun _ => rfl) rfl) (by kernel_rfl) rfl rfl ?_
              first | refine RunS.opA (ok_idxEN rfl (fun _ => rfl) rfl (fun _ => rfl) (fun _ => by omega)) (by kernel_rfl) rfl rfl ?_ | refine RunS.opA (ok_idxE rfl (fun _ => rfl) rfl (fun _ => rfl) (fun _ => by omega)) (by kernel_rfl) rfl rfl ?_
              refine RunS.z (st_E rfl rfl rfl rfl rfl) rfl rfl rfl ?_
              first | refine TrL.op (ok_idxEN rfl (fun _ => rfl) rfl (fun _ => rfl) (fun _ => by omega)) rfl rfl ?_ | refine TrL.op (ok_idxE rfl (fun _ => rfl) rfl (fun _ => rfl) (fun _ => by omega)) rfl rfl ?_
              refine TrL.stE rfl rfl rfl rfl rfl ?_
              refine TrL.fin ?_
              refine End.blk ?_
              refine End.nxt ?_
              refine Tr.rg ?_
              refine TrL.op (ok_move rfl (fun _ => rfl)) rfl rfl ?_
              refine TrL.op (ok_add rfl (fun _ => rfl) rfl (fun _ => rfl) (fun _ => by omega)) rfl rfl ?_
              refine TrL.op (ok_assign rfl (fun _ => rfl)) rfl rfl ?_
              refine TrL.fin ?_
              exact End.lp (x + 1) (by first | rfl | omega | (simp; done) | (simp; omega) | assumption) (by omega) (Ent.mk (.i rfl (by first | rfl | omega | (simp; done) | (simp; omega) | assumption) <| .k rfl rfl <| .k rfl rfl <| .k rfl rfl <| .k rfl rfl <| .nil) (.a (by rw [mtTo, mtStep, if_pos h13]; rfl) (by first | rfl | omega | (simp; done) | (simp; omega) | assumption) <| .k rfl <| .k rfl <| .nil) rfl)
            · intro h13
              replace h13 := Int.not_le.1 (of_decide_eq_false h13)
              refine Tr.skip ?_
              refine End.blk ?_
              refine End.nxt ?_
              refine Tr.rg ?_
              refine TrL.op (ok_move rfl (fun _ => rfl)) rfl rfl ?_
              refine TrL.op (ok_add rfl (fun _ => rfl) rfl (fun _ => rfl) (fun _ => by omega)) rfl rfl ?_
              refine TrL.op (ok_assign rfl (fun _ => rfl)) rfl rfl ?_
              refine TrL.fin ?_
              exact End.lp (x + 1) (by first | rfl | omega | (simp; done) | (simp; omega) | assumption) (by omega) (Ent.mk (.i rfl (by first | rfl | omega | (simp; done) | (simp; omega) | assumption) <| .k rfl rfl <| .k rfl rfl <| .k rfl rfl <| .k rfl rfl <| .nil) (.a (by rw [mtTo, mtStep, if_neg (by omega)]) (by first | rfl | omega | (simp; done) | (simp; omega) | assumption) <| .k rfl <| .k rfl <| .nil) rfl)
          · intro h11
            replace h11 := Int.not_lt.1 (of_decide_eq_false h11)
            refine Tr.exit ?_
            refine Exs.thn ?_
            refine Exs.thn ?_
            refine Exs.here ?_
            exact End.cut (x) (by omega) (Ent.mk (.i rfl (by first | rfl | omega | (simp; done) | (simp; omega) | assumption) <| .k rfl rfl <| .k rfl rfl <| .k rfl rfl <| .k rfl rfl <| .nil) (.a (by first | rfl | omega | (simp; done) | (simp; omega) | assumption) (by first | rfl | omega | (simp; done) | (simp; omega) | assumption) <| .k rfl <| .k rfl <| .nil) rfl)
        · rintro _ rfl
          refine End.norm (S' := [⟨11, true, _, _⟩, ⟨3, true, _, _⟩, ⟨4, true, _, _⟩, ⟨8, true, _, _⟩, ⟨10, true, _, _⟩]) (M' := [⟨14, _, _⟩, ⟨3, _, _⟩, ⟨4, _, _⟩]) rfl rfl ?_
          refine End.blk ?_
          refine End.nxt ?_
          refine Tr.rg ?_
          refine TrL.op (ok_move rfl (fun _ => rfl)) rfl rfl ?_
          refine TrL.op (ok_add rfl (fun _ => rfl) rfl (fun _ => rfl) (fun _ => by omega)) rfl rfl ?_
          refine TrL.op (ok_assign rfl (fun _ => rfl)) rfl rfl ?_
          refine TrL.fin ?_
          exact End.lp (r + 1) (by first | rfl | omega | (simp; done) | (simp; omega) | assumption) (by omega) (Ent.mk (.i rfl (by first | rfl | omega | (simp; done) | (simp; omega) | assumption) <| .k rfl rfl <| .k rfl rfl <| .k rfl rfl <| .nil) (.a (by rfl) (by first | rfl | omega | (simp; done) | (simp; omega) | assumption) <| .k rfl <| .k rfl <| .nil) rfl)
      · intro h8
        replace h8 := Int.not_lt.1 (of_decide_eq_false h8)
        refine Tr.exit ?_
        refine Exs.thn ?_
        refine Exs.thn ?_
        refine Exs.here ?_
        exact End.cut (r) (by omega) (Ent.mk (.i rfl (by first | rfl | omega | (simp; done) | (simp; omega) | assumption) <| .k rfl rfl <| .k rfl rfl <| .k rfl rfl <| .nil) (.a (by first | rfl | omega | (simp; done) | (simp; omega) | assumption) (by first | rfl | omega | (simp; done) | (simp; omega) | assumption) <| .k rfl <| .k rfl <| .nil) rfl)
    · rintro _ rfl
      refine End.norm (S' := [⟨10, true, _, _⟩, ⟨3, true, _, _⟩, ⟨4, true, _, _⟩, ⟨8, true, _, _⟩]) (M' := [⟨14, _, _⟩, ⟨3, _, _⟩, ⟨4, _, _⟩]) rfl rfl ?_
      have hmr := MtSt.all va vb hs (r := a.1.length)
      have hsp := mtF_spec va ca vb hs
      refine End.nxt ?_
      refine Tr.seq ?_
      refine Tr.rg ?_
      refine TrL.op (ok_move rfl (fun _ => rfl)) rfl rfl ?_
      refine TrL.op (ok_ldBS rfl (fun _ => rfl)) rfl rfl ?_
      refine TrL.op (ok_ldBS rfl (fun _ => rfl)) rfl rfl ?_
      refine TrL.op (ok_move rfl (fun _ => rfl)) rfl rfl ?_
      refine TrL.frz 14 [8, 74, 77] ⟨rfl, rfl, rfl, trivial⟩ (by simp only [lenMax]; omega) rfl ?_
      refine TrL.norm (S' := [⟨_, _, _, _⟩, ⟨_, _, _, _⟩, ⟨_, _, _, _⟩, ⟨_, _, _, _⟩, ⟨_, _, _, _⟩, ⟨_, _, _, _⟩, ⟨_, _, _, _⟩, ⟨_, _, _, _⟩, ⟨_, _, _, _⟩, ⟨_, _, _, _⟩, ⟨_, _, _, _⟩]) rfl rfl ?_
      refine TrL.op (ok_call (fun hp => ct_rIsMap _ _ _ va vb hmr.len hsp.1) (.s rfl (fun _ => rfl) rfl <| .s rfl (fun _ => rfl) rfl <| .a rfl (fun _ => rfl) <| .nil)) rfl rfl ?_
      refine TrL.op (ok_assign rfl (fun _ => rfl)) rfl rfl ?_
      refine TrL.op (ok_assign rfl (fun _ => rfl)) rfl rfl ?_
      refine TrL.fin ?_
      refine End.nxt ?_
      refine Tr.ret ?_
      exact Rts.res (fn := Try.f101) (ts := [6, 7]) rfl rfl (.r rfl (by first | rfl | omega | (simp; done) | (simp; omega) | assumption) <| .b rfl (by first | rfl | omega | (simp; done) | (simp; omega) | assumption) <| .nil)

set_option maxRecDepth 100000 in
theorem ct_rMaps (a b : Ori) (va : Valid a) (ca : Conn a) (vb : Valid b) : Ct Try.prog 55 [kRd eO a, kRd eO b] (kRd (eL (eL eI)) (mapsL a b)) := by
  have hv2 := vb.le
  refine Ct.mk Try.func55 rfl Try.ntmps55 rfl (fun w J => ?_)
  refine Tr.seq ?_
  refine Tr.rg ?_
  refine TrL.new (ok_box 2 rfl (fun _ => rfl) rfl) rfl rfl rfl rfl ?_
  refine TrL.new (ok_box 3 rfl (fun _ => rfl) rfl) rfl rfl rfl rfl ?_
  refine TrL.op (ok_assign rfl (fun _ => rfl)) rfl rfl ?_
  refine TrL.fin ?_
  refine End.nxt ?_
  refine Tr.seq ?_
  refine Tr.rg ?_
  refine TrL.op (ok_assign rfl (fun _ => rfl)) rfl rfl ?_
  refine TrL.fin ?_
  refine End.nxt ?_
  refine Tr.seq ?_
  refine Tr.seq ?_
  refine Tr.rg ?_
  refine TrL.op (ok_assign rfl (fun _ => rfl)) rfl rfl ?_
  refine TrL.fin ?_
  refine End.nxt ?_
  refine Tr.grow (s := 5) rfl rfl 5 rfl 22 (eL eI) rfl ?_
  refine Tr.for1 (σ := Nat) [⟨2, true, _, _⟩, ⟨3, true, _, _⟩] [⟨2, _, _⟩, ⟨3, _, _⟩] (fun k => [⟨5, true, [5], kOsl 5 (mapsTo a b k).length⟩, ⟨6, true, [], kI (k : Int)⟩]) (fun k => [⟨5, [], cArr true 22 (eL eI) (mapsTo a b k) (mapsTo a b k).length⟩]) (fun k => k ≤ b.1.length) (fun k => k = b.1.length) (fun k => b.1.length - k) (0) (Nat.zero_le _) (Ent.mk (.o rfl (by first | rfl | omega | (simp; done) | (simp; omega) | assumption) rfl <| .i rfl (by first | rfl | omega | (simp; done) | (simp; omega) | assumption) <| .k rfl rfl <| .k rfl rfl <| .nil) (.a (by rfl) (by first | rfl | omega | (simp; done) | (simp; omega) | assumption) <| .k rfl <| .k rfl <| .nil) rfl) ?_ ?_
  · intro k hR0
    refine Tr.norm (S' := [⟨5, true, _, _⟩, ⟨6, true, _, _⟩, ⟨2, true, _, _⟩, ⟨3, true, _, _⟩]) (M' := [⟨5, _, _⟩, ⟨2, _, _⟩, ⟨3, _, _⟩]) rfl rfl ?_
    have hml := mapsTo_len (a := a) (b := b) (k := k)
    refine Tr.seq ?_
    refine Tr.seq ?_
    refine Tr.rg ?_
    refine TrL.op (ok_move rfl (fun _ => rfl)) rfl rfl ?_
    refine TrL.op (ok_ldBS rfl (fun _ => rfl)) rfl rfl ?_
    refine TrL.op (ok_call (fun hp => ct_rSize _) (.s rfl (fun _ => rfl) rfl <| .nil)) rfl rfl ?_
    refine TrL.op (ok_lss rfl (fun _ => rfl) rfl (fun _ => rfl)) rfl rfl ?_
    refine TrL.fin ?_
    refine End.nxt ?_
    refine Tr.cnd rfl ?_ ?_
    · intro h3
      replace h3 := of_decide_eq_true h3
      have hks : Sq b.1.length (k : Int) := Sq.nat (by omega)
      have hsp := (mtF_spec va ca vb hks).2
      refine Tr.skip ?_
      refine End.nxt ?_
      refine Tr.seq ?_
      refine Tr.blk ?_
      refine Tr.seq ?_
      refine Tr.rg ?_
      refine TrL.op (ok_ldBS rfl (fun _ => rfl)) rfl rfl ?_
      refine TrL.op (ok_ldBS rfl (fun _ => rfl)) rfl rfl ?_
      refine TrL.op (ok_move rfl (fun _ => rfl)) rfl rfl ?_
      refine TrL.op (ok_call (fun hp => ct_rMapTo _ _ _ va ca vb hks) (.s rfl (fun _ => rfl) rfl <| .s rfl (fun _ => rfl) rfl <| .a rfl (fun _ => rfl) <| .nil)) rfl rfl ?_
      refine TrL.op (ok_move rfl (fun _ => rfl)) rfl rfl ?_
      refine TrL.op (ok_ext rfl (fun _ => rfl) rfl) rfl rfl ?_
      refine TrL.op (ok_ext rfl (fun _ => rfl) rfl) rfl rfl ?_
      refine TrL.op (ok_assign rfl (fun _ => rfl)) rfl rfl ?_
      refine TrL.op (ok_assign rfl (fun _ => rfl)) rfl rfl ?_
      refine TrL.fin ?_
      refine End.nxt ?_
      refine Tr.seq ?_
      refine Tr.rg ?_
      refine TrL.op (ok_move rfl (fun _ => rfl)) rfl rfl ?_
      refine TrL.fin ?_
      refine End.nxt ?_
      refine Tr.cnd rfl ?_ ?_
      · intro h6
        have hsm := hsp.trans (if_pos h6)
        refine Tr.rg ?_
        refine TrL.op (ok_move rfl (fun _ => rfl)) rfl rfl ?_
        refine TrL.op (ok_move rfl (fun _ => rfl)) rfl rfl ?_
        refine TrL.new (ok_bsl (eL eI) 25 (fun hp => .cons rfl <| .nil) rfl rfl rfl rfl) rfl rfl rfl rfl ?_
        refine TrL.app rfl rfl rfl rfl rfl rfl rfl rfl (by first | omega | (simp only [List.length_cons, List.length_nil]; omega)) (by first | omega | (simp only [List.length_cons, List.length_nil]; omega)) ?_
        refine TrL.norm (S' := [⟨_, _, _, _⟩, ⟨_, _, _, _⟩, ⟨_, _, _, _⟩, ⟨_, _, _, _⟩, ⟨_, _, _, _⟩, ⟨_, _, _, _⟩, ⟨_, _, _, _⟩, ⟨_, _, _, _⟩, ⟨_, _, _, _⟩, ⟨_, _, _, _⟩, ⟨_, _, _, _⟩, ⟨_, _, _, _⟩, ⟨_, _, _, _⟩, ⟨_, _, _, _⟩, ⟨_, _, _, _⟩, ⟨_, _, _, _⟩, ⟨_, _, _, _⟩, ⟨_, _, _, _⟩, ⟨_, _, _, _⟩, ⟨_, _, _, _⟩, ⟨_, _, _, _⟩, ⟨_, _, _, _⟩]) rfl rfl ?_
        refine TrL.op (ok_assign rfl (fun _ => rfl)) rfl rfl ?_
        refine TrL.fin ?_
        refine End.blk ?_
        refine End.nxt ?_
        refine Tr.rg ?_
        refine TrL.op (ok_move rfl (fun _ => rfl)) rfl rfl ?_
        refine TrL.op (ok_add rfl (fun _ => rfl) rfl (fun _ => rfl) (fun _ => by omega)) rfl rfl ?_
        refine TrL.op (ok_assign rfl (fun _ => rfl)) rfl rfl ?_
        refine TrL.fin ?_
        exact End.lp (k + 1) (by first | rfl | omega | (simp; done) | (simp; omega) | assumption) (by omega) (Ent.mk (.o rfl (by rw [mapsTo_some hsm, List.length_append]) rfl <| .i rfl (by first | rfl | omega | (simp; done) | (simp; omega) | assumption) <| .k rfl rfl <| .k rfl rfl <| .nil) (.a (by rw [mapsTo_some hsm]) (by rw [mapsTo_some hsm, List.length_append]) <| .k rfl <| .k rfl <| .nil) rfl)
      · intro h6
        have hsm := hsp.trans (if_neg (by rw [h6]; simp))
        refine Tr.skip ?_
        refine End.blk ?_
        refine End.nxt ?_
        refine Tr.rg ?_
        refine TrL.op (ok_move rfl (fun _ => rfl)) rfl rfl ?_
        refine TrL.op (ok_add rfl (fun _ => rfl) rfl (fun _ => rfl) (fun _ => by omega)) rfl rfl ?_
        refine TrL.op (ok_assign rfl (fun _ => rfl)) rfl rfl ?_
        refine TrL.fin ?_
        exact End.lp (k + 1) (by first | rfl | omega | (simp; done) | (simp; omega) | assumption) (by omega) (Ent.mk (.o rfl (by rw [mapsTo_none hsm]) rfl <| .i rfl (by first | rfl | omega | (simp; done) | (simp; omega) | assumption) <| .k rfl rfl <| .k rfl rfl <| .nil) (.a (by rw [mapsTo_none hsm]) (by rw [mapsTo_none hsm]) <| .k rfl <| .k rfl <| .nil) rfl)
    · intro h3
      replace h3 := Int.not_lt.1 (of_decide_eq_false h3)
      refine Tr.exit ?_
      refine Exs.thn ?_
      refine Exs.thn ?_
      refine Exs.here ?_
      exact End.cut (k) (by omega) (Ent.mk (.o rfl (by first | rfl | omega | (simp; done) | (simp; omega) | assumption) rfl <| .i rfl (by first | rfl | omega | (simp; done) | (simp; omega) | assumption) <| .k rfl rfl <| .k rfl rfl <| .nil) (.a (by first | rfl | omega | (simp; done) | (simp; omega) | assumption) (by first | rfl | omega | (simp; done) | (simp; omega) | assumption) <| .k rfl <| .k rfl <| .nil) rfl)
  · rintro _ rfl
    refine End.norm (S' := [⟨5, true, _, _⟩, ⟨6, true, _, _⟩, ⟨2, true, _, _⟩, ⟨3, true, _, _⟩]) (M' := [⟨5, _, _⟩, ⟨2, _, _⟩, ⟨3, _, _⟩]) rfl rfl ?_
    have hml := mapsTo_len (a := a) (b := b) (k := b.1.length)
    refine End.nxt ?_
    refine Tr.seq ?_
    refine Tr.rg ?_
    refine TrL.op (ok_move rfl (fun _ => rfl)) rfl rfl ?_
    refine TrL.op (ok_assign rfl (fun _ => rfl)) rfl rfl ?_
    refine TrL.fin ?_
    refine End.nxt ?_
    refine Tr.frz 5 [4] ⟨rfl, trivial⟩ (by simp only [lenMax]; omega) rfl ?_
    refine Tr.ret ?_
    exact Rts.res1 (fn := Try.f55) rfl (.r rfl (by first | rfl | omega | (simp; done) | (simp; omega) | assumption) <| .nil)

end Go.Fl

/- Parts of an origami, cycles of lists. Plain Lean, no program in sight. -/
namespace Go.Fl
structure IsComp (o : Ori) (c : List Int) : Prop where
  nd : c.Nodup
  sq : ∀ x ∈ c, Sq o.1.length x
  R : ∀ x ∈ c, ap o.1 x ∈ c
  U : ∀ x ∈ c, ap o.2 x ∈ c
theorem IsComp.len {o : Ori} {c : List Int} (h : IsComp o c) : c.length ≤ o.1.length := (show Good o.1.length c from ⟨h.nd, h.sq⟩).len
def partF (p c : List Int) (j : Nat) : Int := atL c (ap p (nth c j))
def partO (o : Ori) (c : List Int) : Ori := (tab c.length (partF o.1 c), tab c.length (partF o.2 c))
def partE (o : Ori) (i : Int) : Int := orE (chkO o) (if 0 ≤ i ∧ i < (comps o o.1.length).length then 0 else 6)
def partR (o : Ori) (i : Int) : Ori := if partE o i = 0 then partO o (nth (comps o o.1.length) i.toNat) else ([], [])
def cycE (p : List Int) : Int := if 60 < p.length then 8 else chkL p p.length
end Go.Fl

/- Rows that a struct of the call's own holds: they begin as nil, and are appended to; maps of integers. No program in sight. -/
namespace Go.Fl
open Go Go.RowKit

instance {ks kx out : List Know} [h : SetAt ks 0 kx out] : SetAt ks (0 + 0) kx out := h
/-! ### 1. Cells of which less is said -/
inductive Wk : List Know → List Know → Prop
  | nil : Wk [] []
  | k {k : Know} {ks ls : List Know} (r : Wk ks ls) : Wk (k :: ks) (k :: ls)
  | any {k : Know} {ks ls : List Know} (r : Wk ks ls) : Wk (k :: ks) (kAny :: ls)
theorem Wk.imp {ks ls : List Know} (h : Wk ks ls) {g : Gh} : ∀ {vs : List Value}, allK g ks vs → allK g ls vs := by
  induction h with
  | nil => intro vs h; exact h
  | k _ ih => intro vs h; cases vs with
    | nil => exact h.elim
    | cons v vs => exact ⟨h.1, ih h.2⟩
  | any _ ih => intro vs h; cases vs with
    | nil => exact h.elim
    | cons v vs => exact ⟨trivial, ih h.2⟩
theorem Sat.conC {c : Ctx} {S : Slots} {M M' : Conts} {a : Act} {g : Gh} {w : World} (h : Sat c S M a g w) {v : Nat} {ct ct' : Cont} {dep dep' : List Nat} [hl : LkM M v ct dep] (hc : ∀ g b o, ct g b o → ct' g b o) (hd : CDep ct' dep') (hup : UpM M v ct' dep' M') (hs : ∀ t ∈ dep', t ∈ tags M) : Sat c S M' a g w := by
  have htag := hup.tags
  refine ⟨h.ok, h.slots, fun e he => ?_, fun t ht => ?_, ?_, fun e he => ?_, fun e he => ?_, h.defers, h.size⟩
  · rcases hup.mem h.nodup e he with rfl | ⟨he, _⟩
    · obtain ⟨b, h1, h2⟩ := h.conts _ hl.mem
      exact ⟨b, h1, hc _ _ _ h2⟩
    · exact h.conts e he
  · have := h.dom t ht
    show t ∈ tags M'
    rw [htag]; exact this
  · show (tags M').Nodup
    rw [htag]; exact h.nodup
  · exact ⟨(h.sdep e he).1, fun t ht => by show t ∈ tags M'; rw [htag]; exact (h.sdep e he).2 t ht⟩
  · rcases hup.mem h.nodup e he with rfl | ⟨he, _⟩
    · exact ⟨hd, fun t ht => by show t ∈ tags M'; rw [htag]; exact hs t ht⟩
    · exact ⟨(h.cdep e he).1, fun t ht => by show t ∈ tags M'; rw [htag]; exact (h.cdep e he).2 t ht⟩
/-! ### 2. A nil slice in a struct's cell is a row that is nowhere yet -/
theorem Sat.growC {c : Ctx} {S : Slots} {M M1 : Conts} {a : Act} {g : Gh} {w : World} (h : Sat c S M a g w) (v o u : Nat) {ks ks' : List Know} {dep dep' : List Nat} [hl : LkM M v (cBlk ks) dep] (ho : ks[o]? = some (kDet (.slice none 0 0))) (he : ks' = ks.set o (kOsl u 0)) (hd : CDep (cBlk ks') dep') (hup : UpM M v (cBlk ks') dep' M1)
    (hf : subT [u] (tags M) = false) {α : Type} (et : TypeId) (e : Enc α) (hs : subT dep' (u :: tags M) = true) (hdk : ∀ k ∈ ks, ∃ d, KDep k d ∧ ∀ t ∈ d, t ∈ tags M) : ∃ g', Sat c S (⟨u, [], cArr true et e [] 0⟩ :: M1) a g' w := by
  have hfresh : u ∉ tags M := by
    intro ht
    have : subT [u] (tags M) = true := by
      simp only [subT, Bool.and_true]
      exact List.any_eq_true.2 ⟨u, ht, Nat.beq_refl u⟩
    rw [hf] at this; cases this
  have hnone : g.M u = none := by
    cases hm : g.M u with
    | none => rfl
    | some b => exact absurd (h.dom u (by rw [hm]; simp)) hfresh
  have hle : g.le (g.add u .nil) := ⟨JV.le_refl _, fun t b hb => by
    simp only [Gh.add]
    by_cases ht : t = u
    · subst ht; rw [hnone] at hb; cases hb
    · rw [if_neg ht]; exact hb⟩
  have hblk : ∀ t b cap, (g.add u .nil).M t = some (.blk b cap) → g.M t = some (.blk b cap) := fun t b cap ht => by
    simp only [Gh.add] at ht
    by_cases e : t = u
    · rw [if_pos e] at ht; cases ht
    · rw [if_neg e] at ht; exact ht
  have htag := hup.tags
  refine ⟨g.add u .nil, ⟨⟨h.ok.bel, h.ok.jle, h.ok.jold, h.ok.im, fun t b cap ht => h.ok.own t b cap (hblk _ _ _ ht), fun t t' b c1 c2 h1 h2 => h.ok.inj t t' b c1 c2 (hblk _ _ _ h1) (hblk _ _ _ h2)⟩, h.slots.on h.sdep h.conts hle, fun x hx => ?_, fun t ht => ?_, ?_, fun x hx => ?_, fun x hx => ?_, h.defers, h.size⟩⟩
  · rcases List.mem_cons.1 hx with rfl | hx
    · exact ⟨_, Gh.add_same _ _ _, rfl, rfl⟩
    · rcases hup.mem h.nodup x hx with rfl | ⟨hx, _⟩
      · obtain ⟨b, h1, cs, ty, h2, h3⟩ := h.conts _ hl.mem
        refine ⟨b, hle.2 _ _ h1, cs, ty, h2, ?_⟩
        have hmono : allK (g.add u .nil) ks cs.toList := by
          have : ∀ {ls : List Know} {vs : List Value}, (∀ k ∈ ls, ∃ d, KDep k d ∧ ∀ t ∈ d, t ∈ tags M) → allK g ls vs → allK (g.add u .nil) ls vs := by
            intro ls
            induction ls with
            | nil => intro vs _ h; cases vs <;> exact h
            | cons k ls ih =>
              intro vs hk hh
              cases vs with
              | nil => exact hh.elim
              | cons x vs =>
                obtain ⟨d, q1, q2⟩ := hk k List.mem_cons_self
                exact ⟨know_on h.conts hle q1 q2 hh.1, ih (fun z hz => hk z (List.mem_cons_of_mem _ hz)) hh.2⟩
          exact this hdk h3
        obtain ⟨x, hx1, hx2⟩ := allK_get h3 ho
        have hx2 : x = .slice none 0 0 := hx2
        have := allK_set hmono o (k := kOsl u 0) (v := x) (.inl ⟨Gh.add_same _ _ _, rfl, hx2⟩)
        rw [he]
        have hcs : cs.toList.set o x = cs.toList := by
          refine List.ext_getElem? fun j => ?_
          by_cases e : o = j
          · subst e
            rw [List.getElem?_set_self (List.getElem?_eq_some_iff.1 hx1).1, hx1]
          · rw [List.getElem?_set_ne e]
        rwa [hcs] at this
      · obtain ⟨b, h1, h2⟩ := h.conts x hx
        exact ⟨b, hle.2 _ _ h1, (h.cdep x hx).1.dep hle.1 (fun t ht => by obtain ⟨b, hb⟩ := h.conts.tag ((h.cdep x hx).2 t ht); rw [hb]; exact hle.2 t b hb) h2⟩
  · by_cases e' : t = u
    · subst e'; exact List.mem_cons_self
    · have : g.M t ≠ none := by simpa [Gh.add, e'] using ht
      have := h.dom t this
      exact List.mem_cons_of_mem _ (by show t ∈ tags M1; rw [htag]; exact this)
  · refine List.nodup_cons.2 ⟨?_, ?_⟩
    · show u ∉ tags M1
      rw [htag]; exact hfresh
    · show (tags M1).Nodup
      rw [htag]; exact h.nodup
  · exact ⟨(h.sdep x hx).1, fun t ht => List.mem_cons_of_mem _ (by show t ∈ tags M1; rw [htag]; exact (h.sdep x hx).2 t ht)⟩
  · rcases List.mem_cons.1 hx with rfl | hx
    · exact ⟨inferInstance, fun _ h => by cases h⟩
    · rcases hup.mem h.nodup x hx with rfl | ⟨hx, _⟩
      · refine ⟨hd, fun t ht => ?_⟩
        have := subT_spec hs t ht
        rcases List.mem_cons.1 this with rfl | this
        · exact List.mem_cons_self
        · exact List.mem_cons_of_mem _ (by show t ∈ tags M1; rw [htag]; exact this)
      · exact ⟨(h.cdep x hx).1, fun t ht => List.mem_cons_of_mem _ (by show t ∈ tags M1; rw [htag]; exact (h.cdep x hx).2 t ht)⟩
/-- All of these hang on tags of the list alone. -/
class KsAll (ks : List Know) (L : List Nat) : Prop where
  all : ∀ k ∈ ks, ∃ d, KDep k d ∧ ∀ t ∈ d, t ∈ L
instance {L : List Nat} : KsAll [] L := ⟨fun _ h => by cases h⟩
theorem KsAll.cons {k : Know} {ks : List Know} {L d : List Nat} (h : KDep k d) (hd : subT d L = true) (r : KsAll ks L) : KsAll (k :: ks) L := ⟨fun x hx => by
  rcases List.mem_cons.1 hx with rfl | hx
  · exact ⟨d, h, subT_spec hd⟩
  · exact r.all x hx⟩
/-! ### 3. Maps from integers to integers -/
def cMapI (xs : List Int) (ys : List Int) : Cont := fun g b o => xs.length = ys.length ∧ cMap (xs.map (Value.int .i64)) (ys.map fun y => kI y) g b o
theorem allK_ints {g g' : Gh} : ∀ {ys : List Int} {vs : List Value}, allK g (ys.map fun y => kI y) vs → allK g' (ys.map fun y => kI y) vs
  | [], [], h => h
  | _ :: ys, _ :: vs, h => ⟨h.1, allK_ints (ys := ys) (vs := vs) h.2⟩
  | [], _ :: _, h => h.elim
  | _ :: _, [], h => h.elim
instance {xs ys : List Int} : CDep (cMapI xs ys) [] := ⟨fun _ _ ⟨h0, h1, es, cl, h2, h3, h4⟩ => ⟨h0, h1, es, cl, h2, h3, allK_ints h4⟩⟩
instance (ys : List Int) : KsDep (ys.map fun y => kI y) [] := ⟨fun _ _ h => allK_ints h⟩
section
variable {P : Program} {c : Ctx} {ops : Array Oper} {S : Slots} {M M' : Conts} {rest : List Oper} {Q : Exit → Act → World → Prop}
variable {p : Bool} {d : Option Tmp} {ty : TypeId} {pos : String} {af : Array Edge} {gd : Option (Nat × Bool)} {x y z : Operand} {b b' : Bool} {code : Code}
theorem TrL.wkC (v : Nat) {ks ls : List Know} {dep dep' : List Nat} [hl : LkM M v (cBlk ks) dep] (hw : Wk ks ls) [hd : KsDep ls dep'] [hup : UpM M v (cBlk ls) dep' M'] (hs : subT dep' (tags M) = true) (K : TrL P c ops S M' rest Q) : TrL P c ops S M rest Q :=
  fun a g w h => K a g w (h.conC (ct := cBlk ks) (fun _ _ _ ⟨cs, ty, h1, h2⟩ => ⟨cs, ty, h1, hw.imp h2⟩) inferInstance hup (subT_spec hs))
theorem Tr.growC (v o u : Nat) {ks : List Know} {dep dep' : List Nat} [hl : LkM M v (cBlk ks) dep] (ho : ks[o]? = some (kDet (.slice none 0 0))) {ks' : List Know} (he : ks' = ks.set o (kOsl u 0)) [hd : KsDep ks' dep'] [hup : UpM M v (cBlk ks') dep' M']
    (hf : subT [u] (tags M) = false) {α : Type} (et : TypeId) (e : Enc α) (hs : subT dep' (u :: tags M) = true) (hk : KsAll ks (tags M)) (K : Tr P c S (⟨u, [], cArr true et e [] 0⟩ :: M') code Q) : Tr P c S M code Q :=
  fun a _ w h => let ⟨g', h'⟩ := h.growC v o u ho he inferInstance hup hf et e hs hk.all; K a g' w h'
end
end Go.Fl

/- Contracts: cycles, parts; the law of checks. -/
namespace Go.Fl
open Go Go.Proofs

instance : NB 111 112 := ⟨rfl⟩
end Go.Fl

/- Vertices of corners, horizontal saddle connections. Plain Lean, no program in sight. -/
namespace Go.Fl
/-! ### Which row of a list of disjoint rows an element is on -/
/-- Rows that are written into a list, each with its value. -/
def rowTo (L : List (List Int)) (F : Nat → Int) (n : Nat) : Nat → List Int
  | 0 => List.replicate n 0
  | k + 1 => setC (rowTo L F n k) (nth L k) (F k)
/-! ### Orders and vertices of squares -/
def lenM (L : List (List Int)) (i : Nat) : Int := ((nth L i).length : Int) - 1
def ordV (o : Ori) : List Int := rowTo (vtx o) (lenM (vtx o)) o.1.length (vtx o).length
/-- The order of the lower left corner. -/
def ordF (o : Ori) (x : Int) : Int := ((orb (comm o) x).length : Int) - 1
/-! ### Saddles -/
abbrev SadT := Int × Int × Int × Int × Int × Int
def posO (o : Ori) (x : Int) : Bool := decide (0 < ordF o x)
def sqL (o : Ori) (k : Nat) : List Int := (sqs k).filter (posO o)
/-- How far the next vertex of positive order is. -/
def nxtF (o : Ori) (x : Int) : Nat → Nat → Nat
  | 0, m => m
  | f + 1, m => if 0 < ordF o (it o.1 m x) then m else nxtF o x f (m + 1)
def sadN (o : Ori) (x : Int) : Nat := nxtF o x o.1.length 1
def sadF (o : Ori) (x : Int) : SadT :=
  (x, (sadN o x : Int), nth (vertL o) x.toNat, nth (vertL o) (it o.1 (sadN o x) x).toNat, atL (sqL o o.1.length) (it o.1 (sadN o x) x), atL (sqL o o.1.length) (ap o.2 (ap o.1 (ap (invL o.2) (it o.1 (sadN o x - 1) x)))))
def sadL (o : Ori) (k : Nat) : List SadT := (sqL o k).map (sadF o)
def sadT (o : Ori) (i : Nat) : List SadT := ((sqL o o.1.length).take i).map (sadF o)
end Go.Fl

/- Equal structs; how many keys a map has. No program in sight. -/
namespace Go.Fl
open Go Go.RowKit
/-- A struct type of k integers at which equality can be asked. -/
class TyInts (P : Program) (t : TypeId) (k : Nat) : Prop where
  grd : P.eqGuardType P.depth t = false
  eq : ∀ (xs : List Int) (w : World), xs.length = k → (Op.equalIn 10000 t (.agg (xs.map (Value.int .i64)).toArray) (.agg (xs.map (Value.int .i64)).toArray)).run P w = .ok true w
def intFld (P : Program) (k : Nat) (f : Field) : Bool := (match P.underlying f.type with | some (.int _) => true | _ => false) && decide (f.offset < k)
theorem eqFields_ints {P : Program} (d : Nat) (xs : List Int) (w : World) : ∀ (fs : List Field), fs.all (intFld P xs.length) = true → (Op.eqFields (d + 1) (xs.map (Value.int .i64)).toArray (xs.map (Value.int .i64)).toArray fs).run P w = .ok true w
  | [], _ => by simp [Op.eqFields]
  | f :: fs, h => by
    rw [List.all_cons, Bool.and_eq_true] at h
    obtain ⟨h1, h2⟩ := h
    have ih := eqFields_ints d xs w fs h2
    unfold intFld at h1
    rw [Bool.and_eq_true, decide_eq_true_eq] at h1
    obtain ⟨h3, h4⟩ := h1
    cases hu : P.underlying f.type with
    | none => rw [hu] at h3; cases h3
    | some td =>
      rw [hu] at h3
      cases td with
      | int k =>
        have hp : (part f.type (xs.map (Value.int .i64)).toArray f.offset).run P w = .ok (.int .i64 xs[f.offset]) w := by
          simp [part, isAgg, run_underlying hu, h4]
        rw [Op.eqFields]
        split
        · simp only [Sem.run_bind, hp, Result.andThen_ok, run_equalIn_int w d f.type .i64 k _ _ hu]
          simp [ih]
        · exact ih
      | _ => cases h3
theorem TyInts.mk' {P : Program} {t : TypeId} {k : Nat} (h1 : P.eqGuardType P.depth t = false) (h2 : P.underlying t = some (.struct (P.fieldsOf t))) (h3 : P.stoodInHeld t = false) (h4 : (P.fieldsOf t).toList.all (intFld P k) = true) : TyInts P t k :=
  ⟨h1, fun xs w hl => by
    subst hl
    rw [show (10000 : Nat) = 9999 + 1 from rfl, run_equalIn_struct w 9999 t _ _ h2 h3]
    exact eqFields_ints 9998 xs w _ h4⟩
section
variable {P : Program} {c : Ctx} {S : Slots} {M : Conts} {p : Bool} {d : Option Tmp} {ty : TypeId} {pos : String} {af : Array Edge} {gd : Option (Nat × Bool)} {x y : Operand} {b b' : Bool}
end
end Go.Fl

/- Contracts: saddles. -/
namespace Go.Fl
open Go Go.Proofs

def eSad : Enc SadT := eC (fun v : SadT => (v.1, v.2.1, v.2.2.1, v.2.2.2.1, v.2.2.2.2.1, v.2.2.2.2.2, ())) (eP eI (eP eI (eP eI (eP eI (eP eI (eP eI eU))))))
instance {v : SadT} : CellsK (kRd eSad v) [kI (v.1), kI (v.2.1), kI (v.2.2.1), kI (v.2.2.2.1), kI (v.2.2.2.2.1), kI (v.2.2.2.2.2)] := inferInstanceAs (CellsK (kRd (eC (fun v : SadT => (v.1, v.2.1, v.2.2.1, v.2.2.2.1, v.2.2.2.2.1, v.2.2.2.2.2, ())) (eP eI (eP eI (eP eI (eP eI (eP eI (eP eI eU))))))) v) _)
instance {v : SadT} {tl : List Know} : EncCells eSad v tl (kI (v.1) :: kI (v.2.1) :: kI (v.2.2.1) :: kI (v.2.2.2.1) :: kI (v.2.2.2.2.1) :: kI (v.2.2.2.2.2) :: tl) := inferInstanceAs (EncCells (eC (fun v : SadT => (v.1, v.2.1, v.2.2.1, v.2.2.2.1, v.2.2.2.2.1, v.2.2.2.2.2, ())) (eP eI (eP eI (eP eI (eP eI (eP eI (eP eI eU))))))) v tl _)
instance {v : SadT} : Norm eSad v (kRd eSad v) := ⟨fun h => h⟩
instance {v : SadT} : FieldP eSad v 0 eI (v.1) 0 := inferInstanceAs (FieldP (eC (fun v : SadT => (v.1, v.2.1, v.2.2.1, v.2.2.2.1, v.2.2.2.2.1, v.2.2.2.2.2, ())) (eP eI (eP eI (eP eI (eP eI (eP eI (eP eI eU))))))) v 0 _ _ _)
instance {v : SadT} : FieldP eSad v 1 eI (v.2.1) 1 := inferInstanceAs (FieldP (eC (fun v : SadT => (v.1, v.2.1, v.2.2.1, v.2.2.2.1, v.2.2.2.2.1, v.2.2.2.2.2, ())) (eP eI (eP eI (eP eI (eP eI (eP eI (eP eI eU))))))) v 1 _ _ _)
instance {v : SadT} : FieldP eSad v 2 eI (v.2.2.1) 2 := inferInstanceAs (FieldP (eC (fun v : SadT => (v.1, v.2.1, v.2.2.1, v.2.2.2.1, v.2.2.2.2.1, v.2.2.2.2.2, ())) (eP eI (eP eI (eP eI (eP eI (eP eI (eP eI eU))))))) v 2 _ _ _)
instance {v : SadT} : FieldP eSad v 3 eI (v.2.2.2.1) 3 := inferInstanceAs (FieldP (eC (fun v : SadT => (v.1, v.2.1, v.2.2.1, v.2.2.2.1, v.2.2.2.2.1, v.2.2.2.2.2, ())) (eP eI (eP eI (eP eI (eP eI (eP eI (eP eI eU))))))) v 3 _ _ _)
instance {v : SadT} : FieldP eSad v 4 eI (v.2.2.2.2.1) 4 := inferInstanceAs (FieldP (eC (fun v : SadT => (v.1, v.2.1, v.2.2.1, v.2.2.2.1, v.2.2.2.2.1, v.2.2.2.2.2, ())) (eP eI (eP eI (eP eI (eP eI (eP eI (eP eI eU))))))) v 4 _ _ _)
instance {v : SadT} : FieldP eSad v 5 eI (v.2.2.2.2.2) 5 := inferInstanceAs (FieldP (eC (fun v : SadT => (v.1, v.2.1, v.2.2.1, v.2.2.2.1, v.2.2.2.2.1, v.2.2.2.2.2, ())) (eP eI (eP eI (eP eI (eP eI (eP eI (eP eI eU))))))) v 5 _ _ _)
instance {ks r : List Know} {a b c d e f : Int} [h : RdOf ks (eP eI (eP eI (eP eI (eP eI (eP eI (eP eI eU)))))) (a, b, c, d, e, f, ()) r] : RdOf ks eSad ((a, b, c, d, e, f)) r := ⟨fun h' => h.imp h'⟩
instance : TyInts Try.prog 62 6 := TyInts.mk' (by kernel_rfl) (by kernel_rfl) (by kernel_rfl) (by kernel_rfl)

end Go.Fl

/- A row of the call's own may be lent to a call that only reads; regions that draw their order, some of whose operations write: what yields the same in any world may come first, the rest is gone through as it may come up. No program in sight. -/
namespace Go.Fl
open Go Go.RowKit

/-! ### 1. Lending -/
class KFree (k : Know) : Prop where
  go : ∀ {g g' : Gh} {v : Value}, k g v → k g' v
instance {v : Value} : KFree (kDet v) := ⟨fun h => h⟩
section
variable {P : Program} {c : Ctx} {S : Slots} {M : Conts} {p : Bool} {d : Option Tmp} {ty : TypeId} {pos : String} {af : Array Edge} {gd : Option (Nat × Bool)}
variable {x y z : Operand} {b b' b'' : Bool}
end

/-! ### 2. Any order, gone through -/
def onlyN (Q : Exit → Act → World → Prop) : Exit → Act → World → Prop := fun e a w => e = .normal ∧ Q .normal a w
def Nx (K : Act → World → Prop) : Exit → Act → World → Prop := fun e a w => e = .normal ∧ K a w
def TrA (P : Program) (c : Ctx) (ops : Array Oper) (Q : Exit → Act → World → Prop) (Sp : World → Prop) (n : Nat) (listed : Array Bool) (S : Slots) (M : Conts) : Prop :=
  ∀ a g w, Sat c S M a g w → Sp w → wpAnyH P .any ops (onlyN Q) Sp n listed a w
/-- The operation yields one value in every world that meets Sp. -/
def YOk (P : Program) (c : Ctx) (S : Slots) (M : Conts) (Sp : World → Prop) (o : Oper) (k : Know) : Prop :=
  ∀ a g w, Sat c S M a g w → Sp w → ∃ v, (∀ w', Sp w' → (execOp a.eval o).run P w' = .ok (.value v) w') ∧ k g v
theorem Oper.wp_onN {P : Program} {o : Oper} {a : Act} {w : World} {K K' : Act → World → Prop} {Q : Exit → Act → World → Prop}
    (h : o.wp P a w K (Nx K')) : o.wp P a w K Q := by
  unfold Oper.wp at *
  generalize (execOp a.eval o).run P w = r at *
  cases r with
  | ok n w' =>
    cases n <;> simp only [Oper.upon] at h ⊢ <;>
      first
        | exact h
        | exact Calls.mono h (fun e w'' he => by
            cases e with
            | returned v => exact he
            | panicked ch => exact absurd he.1 (by simp)
            | outgrown => obtain ⟨_, _, hf⟩ := he; exact absurd hf.1 (by simp))
        | exact Rows.mono h (fun _ _ he => he)
        | exact absurd h.1 (by simp)
  | halt x w' =>
    cases x <;> simp only [Oper.upon] at h ⊢ <;> first | exact absurd h.1 (by simp) | exact h
section
variable {P : Program} {c : Ctx} {ops : Array Oper} {S : Slots} {M : Conts} {Q : Exit → Act → World → Prop} {Sp : World → Prop} {n : Nat} {listed : Array Bool}
variable {d : Nat} {oop : Op} {ty : TypeId} {pos : String} {af : Array Edge}
theorem TrA.take (i : Nat) (listed' : Array Bool) {k : Know} {dep : List Nat} (hs : Region.noSelect ops = true) (hf : Region.free .any ops listed i = true) (hr : (Region.ready .any ops listed).contains i = true) (hset : listed.setIfInBounds i true = listed')
    (hi : ops[i]? = some ⟨some d, oop, ty, pos, af, none⟩) (hy : YOk P c S M Sp ⟨some d, oop, ty, pos, af, none⟩ k) [hk : KDep k dep] (hsub : subT dep (tags M) = true) (hn : Nat.blt d c.n = true)
    (K : TrA P c ops Q Sp n listed' (⟨d, true, dep, k⟩ :: S) M) : TrA P c ops Q Sp (n + 1) listed S M := by
  intro a g w hsat hsp
  obtain ⟨v, h1, h2⟩ := hy a g w hsat hsp
  refine wpAnyH_take hi hs hf hr (fun _ _ _ h => absurd h.1 (by simp)) (.inl ⟨rfl, h1⟩) hsp ?_
  rw [hset]
  exact K _ g _ (hsat.did (Did.same hsat.ok h2) (fun _ h => by cases h) hk (subT_spec hsub) (by simpa [Nat.blt_eq] using hn)) hsp
theorem TrA.all (rs : List Nat) (hr : Region.ready .any ops listed = rs) (hne : rs ≠ [])
    (h : ∀ i ∈ rs, ∃ o, ops[i]? = some o ∧ TrL P c ops S M [o] (Nx fun a w => Sp w ∧ wpAnyH P .any ops (onlyN Q) Sp n (listed.setIfInBounds i true) a w)) : TrA P c ops Q Sp (n + 1) listed S M := by
  intro a g w hsat _
  refine wpAnyH_all hr hne fun i hi => ?_
  obtain ⟨o, ho, ht⟩ := h i hi
  have h1 := ht a g w hsat
  unfold wpOp
  rw [ho]
  simp only [wpList] at h1
  simp only
  split
  · rename_i hw
    rw [if_pos hw] at h1
    rcases h1 with h1 | ⟨_, _, _, h1⟩
    · exact .inl (Oper.wp_mono (fun _ _ h => h.2) (Oper.wp_onN h1))
    · exact absurd h1.1 (by simp)
  · rename_i hw
    rw [if_neg hw] at h1
    exact h1.2
theorem TrA.k {listed0 : Array Bool} (listed' : Array Bool) (hl : listed0 = listed') (hSp : ∀ a g w, Sat c S M a g w → Sp w) (K : TrA P c ops Q Sp n listed' S M) : TrL P c ops S M [] (Nx fun a w => Sp w ∧ wpAnyH P .any ops (onlyN Q) Sp n listed0 a w) :=
  fun a g w hs => wpList_nil ⟨rfl, hSp a g w hs, by rw [hl]; exact K a g w hs (hSp a g w hs)⟩
theorem TrA.done (hr : Region.ready .any ops listed = []) (h : End c S M Q) : TrA P c ops Q Sp n listed S M := fun a g w hs _ => wpAnyH_done hr ⟨rfl, h a g w hs⟩ n
/-! ### 3. Blocks that nobody writes -/
def cPin (ct : Cont) (q : Bk × Option Obj) : Cont := fun g bk o => ct g bk o ∧ bk = q.1 ∧ o = q.2
instance {ct : Cont} {q : Bk × Option Obj} {dep : List Nat} [h : CDep ct dep] : CDep (cPin ct q) dep := ⟨fun hl hd ⟨h1, h2⟩ => ⟨h.dep hl hd h1, h2⟩⟩
def pinM (f : Nat → Bk × Option Obj) (M : Conts) : Conts := M.map fun e => ⟨e.t, e.dep, cPin e.c (f e.t)⟩
def pinS (f : Nat → Bk × Option Obj) (M : Conts) : World → Prop := fun w => ∀ e ∈ M, World.objAt w (f e.t).1 = (f e.t).2
end

/-! ### 4. What yields the same in any world -/
section
variable {P : Program} {c : Ctx} {S : Slots} {M : Conts} {Sp : World → Prop} {d : Option Tmp} {ty : TypeId} {pos : String} {af : Array Edge} {gd : Option (Nat × Bool)} {x y : Operand}
end
end Go.Fl

/- The search, one neighbour after the other. Plain Lean, no program in sight. -/
namespace Go.Fl
end Go.Fl

/- Contracts: the labels of the reference; the law of labels. -/
namespace Go.Fl
open Go Go.Proofs

instance : NB 9 12 := ⟨rfl⟩
end Go.Fl

/- Contracts: the label of the reference; the law of labels. -/
namespace Go.Fl
open Go Go.Proofs

end Go.Fl

/- Functions that change a block which the caller lends by a pointer: their walk. No program in sight. -/
namespace Go.Fl
open Go Go.RowKit

/-- A pointer into the call's own thing t, of which the block is known by name. -/
def kOwnAt (t o bl : Nat) : Know := fun g v => (∃ cap, g.M t = some (.blk bl cap)) ∧ v = .pointer (some ⟨bl, o, none⟩)
instance (t o bl : Nat) : KDep (kOwnAt t o bl) [t] := ⟨fun _ hd ⟨⟨cap, h1⟩, h2⟩ => ⟨⟨cap, (hd t (by simp)).trans h1⟩, h2⟩⟩
instance (t o bl : Nat) : KHas (kOwnAt t o bl) t := ⟨fun ⟨⟨cap, h1⟩, _⟩ => by rw [h1]; simp⟩
theorem kOwnAt.own {t o bl : Nat} {g : Gh} {v : Value} (h : kOwnAt t o bl g v) : kOwn t o g v := let ⟨⟨cap, h1⟩, h2⟩ := h; ⟨bl, cap, h1, h2⟩
section
variable {P : Program} {c : Ctx} {S : Slots} {M : Conts} {p : Bool} {d : Option Tmp} {ty : TypeId} {pos : String} {af : Array Edge} {gd : Option (Nat × Bool)} {x : Operand} {b : Bool} {Sp : World → Prop}
end
def RetB (w : World) (J : JV) (b cap : Nat) (res : Know) (ct' : Cont) : Ending → World → Prop := fun e w' => ∃ r J', e = .returned r ∧ But (.blk b cap) w w' ∧ J.le J' ∧ (∀ b' o, b' < w.heap.size → J' b' o = J b' o) ∧ Im J' w' ∧ res ⟨J', noM⟩ r ∧ ct' (g1 J' b cap) (.blk b cap) w'.heap[b]?
theorem allK_sameJ {g g' : Gh} (hJ : g.J.le g'.J) : ∀ {ks : List Know} {vs : List Value}, (∀ k ∈ ks, KDep k []) → allK g ks vs → allK g' ks vs
  | [], [], _, _ => trivial
  | [], _ :: _, _, h => h.elim
  | _ :: _, [], _, h => h.elim
  | k :: ks, v :: vs, hk, h => ⟨(hk k List.mem_cons_self).dep hJ (fun _ h => by cases h) h.1, allK_sameJ hJ (fun x hx => hk x (List.mem_cons_of_mem _ hx)) h.2⟩
theorem CtB.mk {P : Program} {f : FuncId} {fn : Func} {code : Code} {args : List Know} {res : Know} {ct ct' : Cont} {n : Nat} (hf : P.funcs[f]? = some fn) (hb : fn.body = some code) (hn : fn.ntmps = n) (hl : Nat.ble (args.length + 1) n = true) [hj : AllJ args] [hcd : CDep ct []]
    (h : ∀ w J b cap, Tr P ⟨w, J, [b], n⟩ (⟨0, true, [0], kOwnAt 0 0 b⟩ :: params 1 args) [⟨0, [], ct⟩] code (bodyPost P fn (RetB w J b cap res ct'))) : CtB P f (kOwn 0 0) args ct ct' res := by
  intro w J b cap him hJ hlt hct v vs hv hvs
  have hlen := allK_len hvs
  have hle : args.length + 1 ≤ n := Nat.le_of_ble_eq_true hl
  have hM : ∀ t bk, (g1 J b cap).M t = some bk → t = 0 ∧ bk = .blk b cap := fun t bk ht => by
    simp only [g1] at ht
    split at ht
    · rename_i e; cases ht; exact ⟨e, rfl⟩
    · cases ht
  refine calls_of_wp hf hb (h w J b cap _ (g1 J b cap) w ⟨⟨⟨rfl, rfl, rfl, Nat.le_refl _, fun _ _ _ => rfl⟩, JV.le_refl _, fun _ _ _ => rfl, him, fun t b' cap' ht => ?_, fun t t' b1 c1 c2 h1 h2 => ?_⟩, ?_, ?_, ?_, by simp, ?_, ?_, rfl, ?_⟩)
  · obtain ⟨_, e⟩ := hM _ _ ht
    cases e
    exact ⟨.inr (by simp), hlt, hJ⟩
  · rw [(hM _ _ h1).1, (hM _ _ h2).1]
  · intro t bb k hk
    simp only [look] at hk
    cases hb0 : Nat.beq 0 t with
    | true =>
      rw [hb0] at hk
      simp only [cond_true, Option.some.injEq, Prod.mk.injEq] at hk
      obtain ⟨rfl, rfl⟩ := hk
      have := Nat.eq_of_beq_eq_true hb0
      subst this
      refine ⟨fun _ => ?_, fun hf => (by cases hf)⟩
      obtain ⟨b', cap', h1, h2⟩ := hv
      obtain ⟨_, e⟩ := hM _ _ h1
      cases e
      have : ((v :: vs).toArray ++ Array.replicate (fn.ntmps - (v :: vs).toArray.size) undef).getD 0 undef = v := by
        rw [Array.getD_eq_getD_getElem?, Array.getElem?_append_left (by simp)]
        simp
      rw [this]
      exact ⟨⟨cap, by simp [g1]⟩, h2⟩
    | false =>
      rw [hb0] at hk
      obtain ⟨h1, rfl, u, hu, hku⟩ := params_hold (g := g1 J b cap) (allK_sameJ (g := ⟨J, noM⟩) (g' := g1 J b cap) (JV.le_refl _) hj.all hvs) hk
      refine ⟨fun _ => ?_, fun hf => (by cases hf)⟩
      have hu' : (v :: vs)[t]? = some u := by
        rw [show t = (t - 1) + 1 by omega]; simpa using hu
      have ht : t < (v :: vs).length := (List.getElem?_eq_some_iff.1 hu').1
      have : ((v :: vs).toArray ++ Array.replicate (fn.ntmps - (v :: vs).toArray.size) undef).getD t undef = u := by
        rw [Array.getD_eq_getD_getElem?, Array.getElem?_append_left (by simpa using ht)]
        simp only [List.getElem?_toArray]
        rw [hu']; rfl
      rw [this]; exact hku
  · intro e he
    simp only [List.mem_singleton] at he
    subst he
    exact ⟨_, by simp [g1], hct⟩
  · intro t ht
    cases hm : (g1 J b cap).M t with
    | none => exact absurd hm ht
    | some bk => simp [(hM _ _ hm).1]
  · intro e he
    rcases List.mem_cons.1 he with rfl | he
    · exact ⟨inferInstance, fun t ht => by simpa using ht⟩
    · obtain ⟨h1, h2⟩ := params_dep hj.all he
      exact ⟨h1, fun t ht => by rw [h2] at ht; cases ht⟩
  · intro e he
    simp only [List.mem_singleton] at he
    subst he
    exact ⟨hcd, fun t ht => by cases ht⟩
  · simp only [Array.size_append, List.size_toArray, Array.size_replicate, List.length_cons]; omega
section
variable {P : Program} {n : Nat} {w0 : World} {J0 : JV} {S : Slots} {M : Conts} {fn : Func} {b cap t : Nat} {ct ct' : Cont} {dep : List Nat}
end
class AllFree (ks : List Know) : Prop where
  all : ∀ k ∈ ks, KFree k
instance : AllFree [] := ⟨fun _ h => by cases h⟩
instance {k : Know} {ks : List Know} [h : KFree k] [hs : AllFree ks] : AllFree (k :: ks) := ⟨fun x hx => by
  rcases List.mem_cons.1 hx with rfl | hx
  · exact h
  · exact hs.all x hx⟩
end Go.Fl

/- Lattices in the plane of integers: the normal form is unique, a further vector. Plain Lean, no program in sight. -/
namespace Go.Fl
abbrev V2 := Int × Int
abbrev L3 := Int × Int × Int
/-- The lattice of (A, 0) and (B, C). -/
def InL (l : L3) (w : V2) : Prop := ∃ m n : Int, w.1 = m * l.1 + n * l.2.1 ∧ w.2 = n * l.2.2
structure NF (l : L3) : Prop where
  a : 0 ≤ l.1
  c : 0 ≤ l.2.2
  b : 0 < l.1 → 0 ≤ l.2.1 ∧ l.2.1 < l.1
  z : l.2.2 = 0 → l.2.1 = 0
theorem InL.zero {l : L3} : InL l (0, 0) := ⟨0, 0, by simp, by simp⟩
theorem InL.add {l : L3} {v w : V2} (h : InL l v) (k : InL l w) : InL l (v.1 + w.1, v.2 + w.2) := by
  obtain ⟨m, n, h1, h2⟩ := h
  obtain ⟨p, q, k1, k2⟩ := k
  refine ⟨m + p, n + q, ?_, ?_⟩
  · show v.1 + w.1 = _
    rw [h1, k1, Int.add_mul, Int.add_mul]; omega
  · show v.2 + w.2 = _
    rw [h2, k2, Int.add_mul]
theorem InL.smul {l : L3} {v : V2} (h : InL l v) (k : Int) : InL l (k * v.1, k * v.2) := by
  obtain ⟨m, n, h1, h2⟩ := h
  refine ⟨k * m, k * n, ?_, ?_⟩
  · show k * v.1 = _
    rw [h1, Int.mul_add, Int.mul_assoc, Int.mul_assoc]
  · show k * v.2 = _
    rw [h2, Int.mul_assoc]
theorem InL.A {l : L3} : InL l (l.1, 0) := ⟨1, 0, by simp, by simp⟩
theorem InL.B {l : L3} : InL l (l.2.1, l.2.2) := ⟨0, 1, by simp, by simp⟩
theorem InL.dvdC {l : L3} {w : V2} (h : InL l w) : l.2.2 ∣ w.2 := by
  obtain ⟨_, n, _, h2⟩ := h
  exact ⟨n, by rw [h2, Int.mul_comm]⟩
theorem InL.dvdA {l : L3} (nf : NF l) {x : Int} (h : InL l (x, 0)) : l.1 ∣ x := by
  obtain ⟨m, n, h1, h2⟩ := h
  simp only at h1 h2
  have : n * l.2.1 = 0 := by
    rcases Int.mul_eq_zero.1 h2.symm with e | e
    · rw [e, Int.zero_mul]
    · rw [nf.z e, Int.mul_zero]
  exact ⟨m, by rw [h1, this, Int.mul_comm]; omega⟩
theorem NF.uniq {l l' : L3} (h : NF l) (h' : NF l') (e : ∀ w, InL l w ↔ InL l' w) : l = l' := by
  have hC : l.2.2 = l'.2.2 := Int.dvd_antisymm h.c h'.c (InL.dvdC ((e _).2 InL.B)) (InL.dvdC ((e _).1 InL.B))
  have hA : l.1 = l'.1 := Int.dvd_antisymm h.a h'.a (InL.dvdA h ((e _).2 InL.A)) (InL.dvdA h' ((e _).1 InL.A))
  have hB : l.2.1 = l'.2.1 := by
    by_cases hz : l.2.2 = 0
    · rw [h.z hz, h'.z (hC ▸ hz)]
    · obtain ⟨m, n, h1, h2⟩ := (e (l.2.1, l.2.2)).1 InL.B
      simp only at h1 h2
      have hn : n = 1 := by
        rw [← hC] at h2
        have : (n - 1) * l.2.2 = 0 := by rw [Int.sub_mul, ← h2]; omega
        rcases Int.mul_eq_zero.1 this with q | q
        · omega
        · exact absurd q hz
      subst hn
      by_cases hA0 : l'.1 = 0
      · rw [hA0] at h1; omega
      · have hp : 0 < l'.1 := by have := h'.a; omega
        have b1 := h.b (hA ▸ hp)
        have b2 := h'.b hp
        rw [hA] at b1
        have hm : m = 0 := by
          rcases Int.lt_trichotomy m 0 with q | q | q
          · have : m * l'.1 ≤ (-1) * l'.1 := Int.mul_le_mul_of_nonneg_right (by omega) (by omega)
            omega
          · exact q
          · have : 1 * l'.1 ≤ m * l'.1 := Int.mul_le_mul_of_nonneg_right (by omega) (by omega)
            omega
        subst hm
        omega
  obtain ⟨a, b, c⟩ := l
  obtain ⟨a', b', c'⟩ := l'
  simp only at hA hB hC
  rw [hA, hB, hC]

/-! ### Any generators -/
theorem bezN (m n : Nat) : ∃ a b : Int, (Nat.gcd m n : Int) = m * a + n * b := by
  induction m, n using Nat.gcd.induction with
  | H0 n => exact ⟨0, 1, by simp⟩
  | H1 m n _ ih =>
    obtain ⟨a, b, e⟩ := ih
    refine ⟨b - (n / m : Nat) * a, a, ?_⟩
    rw [Nat.gcd_rec, e]
    have h : ((n % m : Nat) : Int) = n - m * (n / m : Nat) := by have := Nat.mod_add_div n m; have h2 : ((n % m + m * (n / m) : Nat) : Int) = n := by rw [this]
                                                                 push_cast at h2 ⊢; omega
    rw [h, Int.sub_mul, Int.mul_sub, Int.mul_assoc]
    omega
theorem bez (A x : Int) : ∃ a b : Int, (Int.gcd A x : Int) = A * a + x * b := by
  obtain ⟨a, b, e⟩ := bezN A.natAbs x.natAbs
  have key : ∀ (z c : Int), ∃ d : Int, (z.natAbs : Int) * c = z * d := fun z c => by
    rcases Int.natAbs_eq z with h | h
    · exact ⟨c, by rw [← h]⟩
    · exact ⟨-c, by rw [Int.mul_neg, ← Int.neg_mul]; conv => rhs; rw [h]; rw [Int.neg_neg]⟩
  obtain ⟨a', ha⟩ := key A a
  obtain ⟨b', hb⟩ := key x b
  exact ⟨a', b', by rw [show (Int.gcd A x : Int) = (Nat.gcd A.natAbs x.natAbs : Nat) from rfl, e, ha, hb]⟩
/-- The span of three vectors: a lattice with one vector more. -/
def Sp3 (A : Int) (v w : V2) (u : V2) : Prop := ∃ m n k : Int, u.1 = m * A + n * v.1 + k * w.1 ∧ u.2 = n * v.2 + k * w.2
/-- At the end: the last vector is horizontal. -/
theorem Sp3.fin {A x : Int} {v : V2} (u : V2) : Sp3 A v (x, 0) u ↔ InL ((Int.gcd A x : Int), v.1, v.2) u := by
  constructor
  · rintro ⟨m, n, k, h1, h2⟩
    obtain ⟨a, ha⟩ := Int.gcd_dvd_left (a := A) (b := x)
    obtain ⟨b, hb⟩ := Int.gcd_dvd_right (a := A) (b := x)
    refine ⟨m * a + k * b, n, ?_, by simpa using h2⟩
    rw [h1]
    simp only
    rw [Int.add_mul, Int.mul_assoc, Int.mul_assoc, Int.mul_comm a, Int.mul_comm b, ← ha, ← hb]
    omega
  · rintro ⟨m, n, h1, h2⟩
    obtain ⟨a, b, e⟩ := bez A x
    refine ⟨m * a, n, m * b, ?_, by simpa using h2⟩
    rw [h1]
    simp only
    rw [e, Int.mul_add, Int.mul_assoc, Int.mul_assoc, Int.mul_comm A, Int.mul_comm x]
    omega
/-- The second vector may be turned round, and moved by the first. -/
theorem InL.neg {A B C : Int} (u : V2) : InL (A, B, C) u ↔ InL (A, -B, -C) u := by
  constructor
  · rintro ⟨m, n, h1, h2⟩
    exact ⟨m, -n, by rw [h1]; simp [Int.neg_mul, Int.mul_neg], by rw [h2]; simp [Int.neg_mul, Int.mul_neg]⟩
  · rintro ⟨m, n, h1, h2⟩
    exact ⟨m, -n, by rw [h1]; simp [Int.neg_mul, Int.mul_neg], by rw [h2]; simp [Int.neg_mul, Int.mul_neg]⟩
theorem InL.mod {A B C : Int} (u : V2) : InL (A, B, C) u ↔ InL (A, B % A, C) u := by
  have e := Int.emod_add_mul_ediv B A
  constructor
  · rintro ⟨m, n, h1, h2⟩
    refine ⟨m + n * (B / A), n, ?_, h2⟩
    rw [h1]; simp only
    rw [Int.add_mul, Int.mul_assoc, Int.mul_comm (B / A), ← Int.emod_add_mul_ediv B A, Int.mul_add]
    simp only [Int.emod_add_mul_ediv]
    omega
  · rintro ⟨m, n, h1, h2⟩
    refine ⟨m - n * (B / A), n, ?_, h2⟩
    rw [h1]; simp only
    have h3 : n * B = n * (B % A) + n * (A * (B / A)) := by rw [← Int.mul_add, e]
    rw [Int.sub_mul, Int.mul_assoc, Int.mul_comm (B / A), h3]
    omega

/-! ### The normal form is there -/
/-- The lattice, by what lies in it. -/
noncomputable def theL (S : V2 → Prop) : L3 := by
  classical exact if h : ∃ l, NF l ∧ ∀ w, InL l w ↔ S w then h.choose else (0, 0, 0)
theorem theL_eq {S : V2 → Prop} {l : L3} (h : NF l) (e : ∀ w, InL l w ↔ S w) : l = theL S := by
  have hx : ∃ l, NF l ∧ ∀ w, InL l w ↔ S w := ⟨l, h, e⟩
  unfold theL
  rw [dif_pos hx]
  exact h.uniq hx.choose_spec.1 fun w => (e w).trans (hx.choose_spec.2 w).symm
noncomputable def latA (l : L3) (v : V2) : L3 := theL (Sp3 l.1 (l.2.1, l.2.2) v)
theorem latA_eq {l l' : L3} {v : V2} (h : NF l') (e : ∀ u, InL l' u ↔ Sp3 l.1 (l.2.1, l.2.2) v u) : l' = latA l v := theL_eq h e
noncomputable def latL (vs : List V2) : L3 := vs.foldl latA (0, 0, 0)
inductive Sp (D : V2 → Prop) : V2 → Prop
  | zero : Sp D (0, 0)
  | add {u d : V2} (k : Int) : Sp D u → D d → Sp D (u.1 + k * d.1, u.2 + k * d.2)
theorem Sp.gen {D : V2 → Prop} {d : V2} (h : D d) : Sp D d := by
  have := Sp.add 1 Sp.zero h
  simpa using this
theorem Sp.sum {D : V2 → Prop} {u v : V2} (hu : Sp D u) (hv : Sp D v) : Sp D (u.1 + v.1, u.2 + v.2) := by
  induction hv with
  | zero => simpa using hu
  | @add w d k _ hd ih =>
    have := Sp.add k ih hd
    simp only [Int.add_assoc] at this
    exact this
theorem Sp.smul {D : V2 → Prop} {u : V2} (k : Int) (hu : Sp D u) : Sp D (k * u.1, k * u.2) := by
  induction hu with
  | zero => simpa using Sp.zero
  | @add w d m _ hd ih =>
    have := Sp.add (k * m) ih hd
    simp only [Int.mul_add, ← Int.mul_assoc]
    exact this
theorem Sp.mono {D E : V2 → Prop} {u : V2} (h : ∀ d, D d → Sp E d) (hu : Sp D u) : Sp E u := by
  induction hu with
  | zero => exact Sp.zero
  | add k _ hd ih => exact Sp.sum ih (Sp.smul k (h _ hd))
/-! ### Potentials -/
def dfR (o : Ori) (p : Int → V2) (x : Int) : V2 := ((p x).1 + 1 - (p (ap o.1 x)).1, (p x).2 - (p (ap o.1 x)).2)
def dfU (o : Ori) (p : Int → V2) (x : Int) : V2 := ((p x).1 - (p (ap o.2 x)).1, (p x).2 + 1 - (p (ap o.2 x)).2)
def Df (o : Ori) (p : Int → V2) : V2 → Prop := fun d => ∃ x, Sq o.1.length x ∧ (d = dfR o p x ∨ d = dfU o p x)
inductive TreeP (o : Ori) (p : Int → V2) : Int → Prop
  | base : TreeP o p 0
  | r {x : Int} : Sq o.1.length x → TreeP o p x → p (ap o.1 x) = ((p x).1 + 1, (p x).2) → TreeP o p (ap o.1 x)
  | u {x : Int} : Sq o.1.length x → TreeP o p x → p (ap o.2 x) = ((p x).1, (p x).2 + 1) → TreeP o p (ap o.2 x)
structure PotT (o : Ori) (p : Int → V2) : Prop where
  zero : p 0 = (0, 0)
  tree : ∀ x, Sq o.1.length x → TreeP o p x
theorem TreeP.diff {o : Ori} {p q : Int → V2} (hp : p 0 = (0, 0)) (hq : q 0 = (0, 0)) {x : Int} (h : TreeP o q x) : Sp (Df o p) ((q x).1 - (p x).1, (q x).2 - (p x).2) := by
  induction h with
  | base => rw [hp, hq]; simpa using Sp.zero
  | @r x hx _ e ih =>
    have := Sp.sum ih (Sp.gen (D := Df o p) ⟨x, hx, .inl rfl⟩)
    rw [e]
    simp only [dfR] at this
    have e1 : (q x).1 - (p x).1 + ((p x).1 + 1 - (p (ap o.1 x)).1) = (q x).1 + 1 - (p (ap o.1 x)).1 := by omega
    have e2 : (q x).2 - (p x).2 + ((p x).2 - (p (ap o.1 x)).2) = (q x).2 - (p (ap o.1 x)).2 := by omega
    rw [e1, e2] at this
    exact this
  | @u x hx _ e ih =>
    have := Sp.sum ih (Sp.gen (D := Df o p) ⟨x, hx, .inr rfl⟩)
    rw [e]
    simp only [dfU] at this
    have e1 : (q x).1 - (p x).1 + ((p x).1 - (p (ap o.2 x)).1) = (q x).1 - (p (ap o.2 x)).1 := by omega
    have e2 : (q x).2 - (p x).2 + ((p x).2 + 1 - (p (ap o.2 x)).2) = (q x).2 + 1 - (p (ap o.2 x)).2 := by omega
    rw [e1, e2] at this
    exact this
theorem Df.sub {o : Ori} (v : Valid o) {p q : Int → V2} (hp : PotT o p) (hq : PotT o q) {d : V2} (h : Df o q d) : Sp (Df o p) d := by
  obtain ⟨x, hx, h⟩ := h
  have h1 := (hq.tree x hx).diff hp.zero hq.zero
  rcases h with rfl | rfl
  · have h2 := ((hq.tree _ (v.pR.aps hx)).diff hp.zero hq.zero).smul (-1)
    have h3 := Sp.sum (Sp.sum h1 h2) (Sp.gen (D := Df o p) ⟨x, hx, .inl rfl⟩)
    simp only [dfR] at h3 ⊢
    rw [show (q x).1 + 1 - (q (ap o.1 x)).1 = (q x).1 - (p x).1 + -1 * ((q (ap o.1 x)).1 - (p (ap o.1 x)).1) + ((p x).1 + 1 - (p (ap o.1 x)).1) by omega,
      show (q x).2 - (q (ap o.1 x)).2 = (q x).2 - (p x).2 + -1 * ((q (ap o.1 x)).2 - (p (ap o.1 x)).2) + ((p x).2 - (p (ap o.1 x)).2) by omega]
    exact h3
  · have h2 := ((hq.tree _ (v.pU.aps hx)).diff hp.zero hq.zero).smul (-1)
    have h3 := Sp.sum (Sp.sum h1 h2) (Sp.gen (D := Df o p) ⟨x, hx, .inr rfl⟩)
    simp only [dfU] at h3 ⊢
    rw [show (q x).1 - (q (ap o.2 x)).1 = (q x).1 - (p x).1 + -1 * ((q (ap o.2 x)).1 - (p (ap o.2 x)).1) + ((p x).1 - (p (ap o.2 x)).1) by omega,
      show (q x).2 + 1 - (q (ap o.2 x)).2 = (q x).2 - (p x).2 + -1 * ((q (ap o.2 x)).2 - (p (ap o.2 x)).2) + ((p x).2 + 1 - (p (ap o.2 x)).2) by omega]
    exact h3
theorem Df.iff {o : Ori} (v : Valid o) {p q : Int → V2} (hp : PotT o p) (hq : PotT o q) (u : V2) : Sp (Df o q) u ↔ Sp (Df o p) u := ⟨Sp.mono fun _ => Df.sub v hp hq, Sp.mono fun _ => Df.sub v hq hp⟩
noncomputable def perL (o : Ori) : L3 := theL fun u => ∃ p, PotT o p ∧ Sp (Df o p) u
theorem perL_eq {o : Ori} (v : Valid o) {p : Int → V2} (hp : PotT o p) {l : L3} (h : NF l) (e : ∀ u, InL l u ↔ Sp (Df o p) u) : l = perL o :=
  theL_eq h fun u => (e u).trans ⟨fun h => ⟨p, hp, h⟩, fun ⟨_, hq, h⟩ => (Df.iff v hp hq u).1 h⟩
end Go.Fl

/- A further vector by Euclid's algorithm; bounds. Plain Lean, no program in sight. -/
namespace Go.Fl
/-- Euclid's algorithm on the second coordinates: (b, c) and (x, y) in place of the second vector of l and v. -/
structure EuS (l : L3) (v : V2) (K N : Nat) (b c x y : Int) : Prop where
  sp : ∀ u, Sp3 l.1 (l.2.1, l.2.2) v u ↔ Sp3 l.1 (b, c) (x, y) u
  phi : b.natAbs * y.natAbs + x.natAbs * c.natAbs ≤ K
  bK : b.natAbs ≤ K
  xK : x.natAbs ≤ K
  cN : c.natAbs ≤ N
  yN : y.natAbs ≤ N
  z : c = 0 → b = 0
section
variable {l : L3} {v : V2} {K N : Nat} {b c x y : Int}
/-- What is made of it at the end. -/
def fin3 (a b c : Int) : L3 := (a, if 0 < a then (if c < 0 then -b else b) % a else (if c < 0 then -b else b), if c < 0 then -c else c)
theorem fin3_nf {a b c : Int} (ha : 0 ≤ a) (hz : c = 0 → b = 0) : NF (fin3 a b c) := by
  refine ⟨ha, ?_, fun hp => ?_, fun e => ?_⟩
  · show 0 ≤ (if c < 0 then -c else c)
    split <;> omega
  · have hp' : 0 < a := hp
    show 0 ≤ (if 0 < a then _ else _) ∧ (if 0 < a then _ else _) < a
    rw [if_pos hp']
    exact ⟨Int.emod_nonneg _ (by omega), Int.emod_lt_of_pos _ hp'⟩
  · have hc : c = 0 := by
      have e' : (if c < 0 then -c else c) = 0 := e
      split at e' <;> omega
    have hb := hz hc
    show (if 0 < a then (if c < 0 then -b else b) % a else (if c < 0 then -b else b)) = 0
    rw [hb, hc]; simp
theorem fin3_in {a b c : Int} (u : V2) : InL (fin3 a b c) u ↔ InL (a, b, c) u := by
  have h1 : InL (a, (if c < 0 then -b else b), (if c < 0 then -c else c)) u ↔ InL (a, b, c) u := by
    by_cases hc : c < 0
    · rw [if_pos hc, if_pos hc]; exact (InL.neg u).symm
    · rw [if_neg hc, if_neg hc]
  refine Iff.trans ?_ h1
  unfold fin3
  by_cases ha : 0 < a
  · rw [if_pos ha]; exact (InL.mod u).symm
  · rw [if_neg ha]
theorem EuS.done (h : EuS l v K N b c x 0) : latA l v = fin3 (Int.gcd l.1 x : Int) b c :=
  (latA_eq (fin3_nf (Int.natCast_nonneg _) h.z) fun u => (fin3_in u).trans ((h.sp u).trans (Sp3.fin u)).symm).symm
end
/-! ### The reference's quotients are rounded down -/
def flk (c y : Int) : Int := if y < 0 then -(c / (if y < 0 then -y else y)) else c / (if y < 0 then -y else y)
/-- Where the reference may be within its loop. -/
def RfS (l : L3) (v : V2) (K N : Nat) (b c x y : Int) : Prop := (0 ≤ c ∧ y < 0 ∧ EuS l v K N b c x y) ∨ (0 ≤ c ∧ 0 ≤ y ∧ EuS l v (3 * K) N b c x y) ∨ (c < 0 ∧ 0 ≤ y ∧ y < -c ∧ EuS l v K N b c x y)
end Go.Fl

/- Contracts: the lattice of the periods. -/
namespace Go.Fl
open Go Go.Proofs


end Go.Fl

/- Contracts: the lattice of the periods, in the reference. -/
namespace Go.Fl
open Go Go.Proofs

def eLat : Enc L3 := eC (fun v : L3 => (v.1, v.2.1, v.2.2, ())) (eP eI (eP eI (eP eI eU)))
instance {v : L3} : CellsK (kRd eLat v) [kI (v.1), kI (v.2.1), kI (v.2.2)] := inferInstanceAs (CellsK (kRd (eC (fun v : L3 => (v.1, v.2.1, v.2.2, ())) (eP eI (eP eI (eP eI eU)))) v) _)
instance {v : L3} {tl : List Know} : EncCells eLat v tl (kI (v.1) :: kI (v.2.1) :: kI (v.2.2) :: tl) := inferInstanceAs (EncCells (eC (fun v : L3 => (v.1, v.2.1, v.2.2, ())) (eP eI (eP eI (eP eI eU)))) v tl _)
instance {v : L3} : Norm eLat v (kRd eLat v) := ⟨fun h => h⟩
instance {v : L3} : FieldP eLat v 0 eI (v.1) 0 := inferInstanceAs (FieldP (eC (fun v : L3 => (v.1, v.2.1, v.2.2, ())) (eP eI (eP eI (eP eI eU)))) v 0 _ _ _)
instance {v : L3} : FieldP eLat v 1 eI (v.2.1) 1 := inferInstanceAs (FieldP (eC (fun v : L3 => (v.1, v.2.1, v.2.2, ())) (eP eI (eP eI (eP eI eU)))) v 1 _ _ _)
instance {v : L3} : FieldP eLat v 2 eI (v.2.2) 2 := inferInstanceAs (FieldP (eC (fun v : L3 => (v.1, v.2.1, v.2.2, ())) (eP eI (eP eI (eP eI eU)))) v 2 _ _ _)
instance {ks r : List Know} {a b c : Int} [h : RdOf ks (eP eI (eP eI (eP eI eU))) (a, b, c, ()) r] : RdOf ks eLat ((a, b, c)) r := ⟨fun h' => h.imp h'⟩
end Go.Fl

/- Bounds of lattices; potentials along a search. Plain Lean, no program in sight. -/
namespace Go.Fl
structure Bd (N : Nat) (l : L3) : Prop where
  c : l.2.2.natAbs ≤ N
  a : l.1.natAbs ≤ 2 * N * N
  b : l.1 = 0 → l.2.1.natAbs ≤ N
theorem Bd.zero {N : Nat} : Bd N (0, 0, 0) := ⟨by simp, by simp, by simp⟩
end Go.Fl

/- Potentials along a search. Plain Lean, no program in sight. -/
namespace Go.Fl
/-- A square that is reached by steps within K, along which the potential grows. -/
inductive TreeIn (o : Ori) (p : Int → V2) (K : Int → Prop) : Int → Prop
  | base : K 0 → TreeIn o p K 0
  | r {x : Int} : Sq o.1.length x → TreeIn o p K x → K (ap o.1 x) → p (ap o.1 x) = ((p x).1 + 1, (p x).2) → TreeIn o p K (ap o.1 x)
  | u {x : Int} : Sq o.1.length x → TreeIn o p K x → K (ap o.2 x) → p (ap o.2 x) = ((p x).1, (p x).2 + 1) → TreeIn o p K (ap o.2 x)
theorem TreeIn.inn {o : Ori} {p : Int → V2} {K : Int → Prop} {x : Int} (h : TreeIn o p K x) : K x := by cases h <;> assumption
theorem TreeIn.mono {o : Ori} {p p' : Int → V2} {K K' : Int → Prop} (hK : ∀ x, K x → K' x) (hp : ∀ x, K x → p' x = p x) {x : Int} (h : TreeIn o p K x) : TreeIn o p' K' x := by
  induction h with
  | base h => exact .base (hK _ h)
  | r hx h hk e ih => exact .r hx ih (hK _ hk) (by rw [hp _ hk, hp _ h.inn]; exact e)
  | u hx h hk e ih => exact .u hx ih (hK _ hk) (by rw [hp _ hk, hp _ h.inn]; exact e)
theorem TreeIn.tree {o : Ori} {p : Int → V2} {K : Int → Prop} {x : Int} (h : TreeIn o p K x) : TreeP o p x := by
  induction h with
  | base => exact .base
  | r hx _ _ e ih => exact .r hx ih e
  | u hx _ _ e ih => exact .u hx ih e
/-- What is known of the potentials p of the squares K; m: how many these are. -/
structure PS (o : Ori) (K : Int → Prop) (p : Int → V2) (m : Nat) : Prop where
  k0 : K 0
  p0 : p 0 = (0, 0)
  t : ∀ x, K x → TreeIn o p K x
  b : ∀ x, K x → 0 ≤ (p x).1 ∧ 0 ≤ (p x).2 ∧ (p x).1 + (p x).2 < m
theorem PS.congr {o : Ori} {K K' : Int → Prop} {p p' : Int → V2} {m : Nat} (h : PS o K p m) (hK : ∀ x, K x ↔ K' x) (hp : ∀ x, K x → p' x = p x) : PS o K' p' m :=
  ⟨(hK _).1 h.k0, by rw [hp _ h.k0]; exact h.p0, fun x hx => (h.t x ((hK x).2 hx)).mono (fun y hy => (hK y).1 hy) hp, fun x hx => by rw [hp _ ((hK x).2 hx)]; exact h.b x ((hK x).2 hx)⟩
def updP (p : Int → V2) (y : Int) (w : V2) : Int → V2 := fun z => if z = y then w else p z
theorem updP_same {p : Int → V2} {y : Int} {w : V2} : updP p y w y = w := if_pos rfl
theorem updP_ne {p : Int → V2} {y z : Int} {w : V2} (h : z ≠ y) : updP p y w z = p z := if_neg h
theorem PS.grow {o : Ori} {K : Int → Prop} {p : Int → V2} {m : Nat} (h : PS o K p m) {x y : Int} (hx : Sq o.1.length x) (hk : K x) (hy : ¬ K y) {w : V2} (hw : (y = ap o.1 x ∧ w = ((p x).1 + 1, (p x).2)) ∨ (y = ap o.2 x ∧ w = ((p x).1, (p x).2 + 1))) :
    PS o (fun z => K z ∨ z = y) (updP p y w) (m + 1) := by
  have hne : ∀ z, K z → z ≠ y := fun z hz e => hy (e ▸ hz)
  have hold : ∀ z, K z → updP p y w z = p z := fun z hz => updP_ne (hne z hz)
  have hb := h.b x hk
  refine ⟨.inl h.k0, by rw [hold _ h.k0]; exact h.p0, fun z hz => ?_, fun z hz => ?_⟩
  · rcases hz with hz | rfl
    · exact (h.t z hz).mono (fun _ h => .inl h) hold
    · have ht := (h.t x hk).mono (K' := fun z' => K z' ∨ z' = z) (p' := updP p z w) (fun _ h => .inl h) hold
      rcases hw with ⟨rfl, rfl⟩ | ⟨rfl, rfl⟩
      · exact .r hx ht (.inr rfl) (by rw [updP_same, hold x hk])
      · exact .u hx ht (.inr rfl) (by rw [updP_same, hold x hk])
  · rcases hz with hz | rfl
    · rw [hold _ hz]
      have := h.b z hz
      omega
    · rw [updP_same]
      rcases hw with ⟨_, rfl⟩ | ⟨_, rfl⟩ <;> exact ⟨by simp only; omega, by simp only; omega, by simp only; omega⟩
theorem PS.pot {o : Ori} {K : Int → Prop} {p : Int → V2} {m : Nat} (h : PS o K p m) (hall : ∀ x, Sq o.1.length x → K x) : PotT o p := ⟨h.p0, fun x hx => (h.t x (hall x hx)).tree⟩
/-! ### The reference's search -/
def pOf (px py : List Int) : Int → V2 := fun x => (nth px x.toNat, nth py x.toNat)
def knP (n : Nat) (kn : List Bool) : Int → Prop := fun x => Sq n x ∧ nth kn x.toNat = true
structure RS (o : Ori) (px py : List Int) (kn : List Bool) : Prop where
  lx : px.length = o.1.length
  ly : py.length = o.1.length
  lk : kn.length = o.1.length
  ps : PS o (knP o.1.length kn) (pOf px py) (kn.count true)
theorem nth_setB {kn : List Bool} {i j : Nat} (hi : i < kn.length) : nth (kn.set i true) j = if j = i then true else nth kn j := by
  unfold nth
  simp only [List.getD_eq_getElem?_getD, List.getElem?_set]
  by_cases e : i = j
  · subst e; simp [hi]
  · rw [if_neg e, if_neg (fun h => e h.symm)]
theorem nth_setI {xs : List Int} {i j : Nat} {v : Int} (hi : i < xs.length) : nth (xs.set i v) j = if j = i then v else nth xs j := by
  unfold nth
  simp only [List.getD_eq_getElem?_getD, List.getElem?_set]
  by_cases e : i = j
  · subst e; simp [hi]
  · rw [if_neg e, if_neg (fun h => e h.symm)]
theorem count_setB {kn : List Bool} {i : Nat} (hi : i < kn.length) (h : nth kn i = false) : (kn.set i true).count true = kn.count true + 1 := by
  rw [List.count_set hi]
  have e : kn[i] = false := by rw [← h]; unfold nth; simp [List.getD_eq_getElem?_getD, hi]
  rw [e]; simp
theorem RS.grow {o : Ori} {px py : List Int} {kn : List Bool} (h : RS o px py kn) {x y a b : Int} (hx : Sq o.1.length x) (hy : Sq o.1.length y) (hk : nth kn x.toNat = true) (hn : nth kn y.toNat = false)
    (hw : (y = ap o.1 x ∧ a = nth px x.toNat + 1 ∧ b = nth py x.toNat) ∨ (y = ap o.2 x ∧ a = nth px x.toNat ∧ b = nth py x.toNat + 1)) : RS o (px.set y.toNat a) (py.set y.toNat b) (kn.set y.toNat true) := by
  have hyl : y.toNat < o.1.length := by have := hy.1; have := hy.2; omega
  refine ⟨by rw [List.length_set]; exact h.lx, by rw [List.length_set]; exact h.ly, by rw [List.length_set]; exact h.lk, ?_⟩
  rw [count_setB (by rw [h.lk]; exact hyl) hn]
  have hg := h.ps.grow (y := y) (w := (a, b)) hx ⟨hx, hk⟩ (fun hh => by rw [hh.2] at hn; cases hn) (by
    rcases hw with ⟨h1, h2, h3⟩ | ⟨h1, h2, h3⟩
    · exact .inl ⟨h1, by rw [h2, h3]; rfl⟩
    · exact .inr ⟨h1, by rw [h2, h3]; rfl⟩)
  refine hg.congr (fun z => ?_) (fun z hz => ?_)
  · unfold knP
    rw [nth_setB (by rw [h.lk]; exact hyl)]
    constructor
    · rintro (⟨h1, h2⟩ | rfl)
      · exact ⟨h1, by rw [h2]; simp⟩
      · exact ⟨hy, by simp⟩
    · rintro ⟨h1, h2⟩
      by_cases e : z = y
      · exact .inr e
      · rw [if_neg (by have := h1.1; have := hy.1; omega)] at h2
        exact .inl ⟨h1, h2⟩
  · have hzs : Sq o.1.length z := by
      rcases hz with hz | rfl
      · exact hz.1
      · exact hy
    unfold pOf updP
    rw [nth_setI (by rw [h.lx]; exact hyl), nth_setI (by rw [h.ly]; exact hyl)]
    by_cases e : z = y
    · rw [if_pos e, if_pos (by rw [e]), if_pos (by rw [e])]
    · have e2 : z.toNat ≠ y.toNat := by have := hzs.1; have := hy.1; omega
      rw [if_neg e, if_neg e2, if_neg e2]
end Go.Fl

/- The reference's rounds; the vectors of a potential. Plain Lean, no program in sight. -/
namespace Go.Fl
def Cl (o : Ori) (kn : List Bool) (i : Nat) : Prop := nth kn i = true → nth kn (nth o.1 i).toNat = true ∧ nth kn (nth o.2 i).toNat = true
/-- Within a round, before square s; c: how many were known at its beginning. -/
def Mv (o : Ori) (c s : Nat) (px py : List Int) (kn : List Bool) : Prop := RS o px py kn ∧ (c < kn.count true ∨ (kn.count true = c ∧ ∀ i, i < s → Cl o kn i))
/-- Halfway through a square. -/
def Mh (o : Ori) (c s : Nat) (px py : List Int) (kn : List Bool) : Prop := RS o px py kn ∧ (c < kn.count true ∨ (kn.count true = c ∧ (∀ i, i < s → Cl o kn i) ∧ (nth kn s = true → nth kn (nth o.1 s).toNat = true)))
section
variable {o : Ori} {c s : Nat} {px py : List Int} {kn : List Bool}
theorem Mv.zero (h : RS o px py kn) : Mv o (kn.count true) 0 px py kn := ⟨h, .inr ⟨rfl, fun _ h => absurd h (by omega)⟩⟩
theorem Mv.new (v : Valid o) (h : Mv o c s px py kn) (hs : s < o.1.length) (h1 : nth kn s = true) (h2 : nth kn (nth o.1 s).toNat = false) :
    Mh o c s (px.set (nth o.1 s).toNat (nth px s + 1)) (py.set (nth o.1 s).toNat (nth py s)) (kn.set (nth o.1 s).toNat true) := by
  have hy : Sq o.1.length (nth o.1 s) := v.ri hs
  refine ⟨h.1.grow (x := (s : Int)) (Sq.nat hs) hy (by simpa using h1) h2 (.inl ⟨rfl, by simp, by simp⟩), .inl ?_⟩
  rw [count_setB (by rw [h.1.lk]; have := hy.1; have := hy.2; omega) h2]
  rcases h.2 with h | ⟨h, _⟩ <;> omega
theorem Mh.new (v : Valid o) (h : Mh o c s px py kn) (hs : s < o.1.length) (h1 : nth kn s = true) (h2 : nth kn (nth o.2 s).toNat = false) :
    Mv o c (s + 1) (px.set (nth o.2 s).toNat (nth px s)) (py.set (nth o.2 s).toNat (nth py s + 1)) (kn.set (nth o.2 s).toNat true) := by
  have hy : Sq o.1.length (nth o.2 s) := v.ui hs
  refine ⟨h.1.grow (x := (s : Int)) (Sq.nat hs) hy (by simpa using h1) h2 (.inr ⟨rfl, by simp, by simp⟩), .inl ?_⟩
  rw [count_setB (by rw [h.1.lk]; have := hy.1; have := hy.2; omega) h2]
  rcases h.2 with h | ⟨h, _⟩ <;> omega
theorem RS.all (h : RS o px py kn) (hc : o.1.length ≤ kn.count true) : ∀ i, i < o.1.length → nth kn i = true := fun i hi => by
  have hl := List.count_le_length (a := true) (l := kn)
  rw [h.lk] at hl
  have := List.count_eq_length.1 (show kn.count true = kn.length by rw [h.lk]; omega) _ (nth_mem (xs := kn) (i := i) (by rw [h.lk]; exact hi))
  exact this.symm
/-- A round that changes nothing has come to its end. -/
theorem Mv.all (v : Valid o) (cn : Conn o) (h : Mv o c o.1.length px py kn) : c + 1 ≤ kn.count true ∨ o.1.length ≤ kn.count true := by
  rcases h.2 with h2 | ⟨_, h2⟩
  · exact .inl h2
  · refine .inr ?_
    have h0 := h.1.ps.k0
    have hF : Fwd o (fun x => nth kn x.toNat = true) := fun x hx hk => h2 x.toNat (by have := hx.1; have := hx.2; omega) hk
    have hall : ∀ x, Sq o.1.length x → nth kn x.toNat = true := fun x hx => reach_min v h0.1 hF h0.2 x (cn.all v h0.1 hx)
    have : kn.count true = kn.length := List.count_eq_length.2 fun b hb => by
      obtain ⟨i, hi, rfl⟩ := List.getElem_of_mem hb
      have := hall (i : Int) (Sq.nat (by rw [← h.1.lk]; exact hi))
      unfold nth at this
      simpa [List.getD_eq_getElem?_getD, hi] using this.symm
    rw [this, h.1.lk]; exact Nat.le_refl _
theorem RS.pot (h : RS o px py kn) (hc : o.1.length ≤ kn.count true) : PotT o (pOf px py) :=
  h.ps.pot fun x hx => ⟨hx, h.all hc _ (by have := hx.1; have := hx.2; omega)⟩
end
/-- The vectors of the first k squares. -/
def vecs (o : Ori) (p : Int → V2) (k : Nat) : List V2 := (List.range k).flatMap fun i : Nat => [dfR o p i, dfU o p i]
section
variable {o : Ori} {px py : List Int} {kn : List Bool}
end
end Go.Fl

/- Contracts: the periods, in the reference. -/
namespace Go.Fl
open Go Go.Proofs

end Go.Fl

/- Contracts: genus. -/
namespace Go.Fl
open Go Go.Proofs

def genF (o : Ori) : Int := ((o.1.length : Int) - ((vtx o).length : Int)).tdiv 2 + 1
end Go.Fl

/- The program's search of periods: potentials along a list, a lattice of what has been looked at. Plain Lean, no program in sight. -/
namespace Go.Fl
def pAt (at' : List (Int × Int × Unit)) : Int → V2 := fun x => ((nth at' x.toNat).1, (nth at' x.toNat).2.1)
def edg (o : Ori) (x : Int) (e : Nat) : Int := if e = 0 then ap o.1 x else ap o.2 x
/-- One step further along an edge. -/
def uni (w : V2) (e : Nat) : V2 := if e = 0 then (w.1 + 1, w.2) else (w.1, w.2 + 1)
def dfE (o : Ori) (p : Int → V2) (x : Int) (e : Nat) : V2 := ((uni (p x) e).1 - (p (edg o x e)).1, (uni (p x) e).2 - (p (edg o x e)).2)
def Lkd (k j i e : Nat) : Prop := e < 2 ∧ (i < k ∨ (i = k ∧ e < j))
def DE (o : Ori) (p : Int → V2) (L : List Int) (k j : Nat) : V2 → Prop := fun d => ∃ i e, Lkd k j i e ∧ i < L.length ∧ d = dfE o p (nth L i) e
structure PB (o : Ori) (k j : Nat) (at' : List (Int × Int × Unit)) (l : L3) (L : List Int) : Prop where
  len : at'.length = o.1.length
  gd : Good o.1.length L
  ps : PS o (· ∈ L) (pAt at') L.length
  nf : NF l
  bd : Bd 130 l
  cl : ∀ i e, Lkd k j i e → i < L.length → edg o (nth L i) e ∈ L
  sp : ∀ u, InL l u ↔ Sp (DE o (pAt at') L k j) u
section
variable {o : Ori} {k j : Nat} {at' : List (Int × Int × Unit)} {l : L3} {L : List Int}
theorem Lkd.succ {k j i e : Nat} (hj : j < 2) : Lkd k (j + 1) i e ↔ Lkd k j i e ∨ (i = k ∧ e = j) := by
  unfold Lkd; omega
theorem Sp.zero_iff {D E : V2 → Prop} (h1 : ∀ d, D d → E d) (h2 : ∀ d, E d → D d ∨ d = (0, 0)) {u : V2} : Sp D u ↔ Sp E u := by
  refine ⟨Sp.mono fun d hd => Sp.gen (h1 d hd), Sp.mono fun d hd => ?_⟩
  rcases h2 d hd with h | rfl
  · exact Sp.gen h
  · exact Sp.zero
theorem nth_setV {xs : List (Int × Int × Unit)} {i j : Nat} {w : Int × Int × Unit} (hi : i < xs.length) : nth (xs.set i w) j = if j = i then w else nth xs j := by
  unfold nth
  simp only [List.getD_eq_getElem?_getD, List.getElem?_set]
  by_cases e : i = j
  · subst e; simp [hi]
  · rw [if_neg e, if_neg (fun h => e h.symm)]
/-- An edge to a square that is new. -/
theorem PB.new (h : PB o k j at' l L) (hk : k < L.length) (hj : j < 2) (hys : Sq o.1.length (edg o (nth L k) j)) (hy : edg o (nth L k) j ∉ L) {a b : Int} (hw : (a, b) = uni (pAt at' (nth L k)) j) :
    PB o k (j + 1) (at'.set (edg o (nth L k) j).toNat (a, b, ())) l (L ++ [edg o (nth L k) j]) := by
  have hxs : Sq o.1.length (nth L k) := h.gd.rng _ (nth_mem hk)
  have hyl : (edg o (nth L k) j).toNat < at'.length := by rw [h.len]; have := hys.1; have := hys.2; omega
  have hup : ∀ z, Sq o.1.length z → pAt (at'.set (edg o (nth L k) j).toNat (a, b, ())) z = updP (pAt at') (edg o (nth L k) j) (a, b) z := fun z hz => by
    unfold pAt updP
    rw [nth_setV hyl]
    by_cases e : z = edg o (nth L k) j
    · rw [if_pos e, if_pos (by rw [e])]
    · rw [if_neg e, if_neg (by have := hz.1; have := hys.1; omega)]
  have hold : ∀ z, z ∈ L → pAt (at'.set (edg o (nth L k) j).toNat (a, b, ())) z = pAt at' z := fun z hz => by
    rw [hup z (h.gd.rng z hz)]; exact updP_ne (fun e => hy (by rw [← e]; exact hz))
  have hg := h.ps.grow (y := edg o (nth L k) j) (w := (a, b)) hxs (nth_mem hk) hy (by
    rw [hw]; unfold edg uni
    by_cases e : j = 0
    · exact .inl ⟨if_pos e, if_pos e⟩
    · exact .inr ⟨if_neg e, if_neg e⟩)
  have hnl : ∀ i e, Lkd k (j + 1) i e → i < (L ++ [edg o (nth L k) j]).length → i < L.length := fun i e hi hl => by
    unfold Lkd at hi; omega
  have hcl : ∀ i e, Lkd k (j + 1) i e → i < L.length → edg o (nth L i) e ∈ L ∨ edg o (nth L i) e = edg o (nth L k) j := fun i e hi hl => by
    rcases (Lkd.succ hj).1 hi with hi | ⟨rfl, rfl⟩
    · exact .inl (h.cl i e hi hl)
    · exact .inr rfl
  refine ⟨by rw [List.length_set]; exact h.len, h.gd.snoc hys.1 hys.2 hy, ?_, h.nf, h.bd, fun i e hi hl => ?_, fun u => (h.sp u).trans (Sp.zero_iff ?_ ?_)⟩
  · rw [List.length_append, List.length_singleton]
    refine hg.congr (fun x => by simp) (fun x hx => (hup x ?_).trans ?_)
    · rcases hx with hx | rfl
      · exact h.gd.rng x hx
      · exact hys
    · rfl
  · have hl' := hnl i e hi hl
    rw [nth_app_l hl']
    rcases hcl i e hi hl' with h1 | h1
    · exact List.mem_append_left _ h1
    · rw [h1]; exact List.mem_append_right _ List.mem_cons_self
  · rintro d ⟨i, e, h3, h4, h5⟩
    refine ⟨i, e, (Lkd.succ hj).2 (.inl h3), by rw [List.length_append]; omega, ?_⟩
    rw [nth_app_l h4, h5]
    unfold dfE
    rw [hold _ (nth_mem h4), hold _ (h.cl i e h3 h4)]
  · rintro d ⟨i, e, h3, h4, h5⟩
    have h4' := hnl i e h3 h4
    rw [nth_app_l h4'] at h5
    rcases (Lkd.succ hj).1 h3 with h6 | ⟨rfl, rfl⟩
    · refine .inl ⟨i, e, h6, h4', ?_⟩
      rw [h5]; unfold dfE
      rw [hold _ (nth_mem h4'), hold _ (h.cl i e h6 h4')]
    · refine .inr ?_
      rw [h5]; unfold dfE
      rw [hold _ (nth_mem h4'), hup _ hys, updP_same, ← hw]
      simp
theorem PB.fin (v : Valid o) (cn : Conn o) (h : PB o k 0 at' l L) (hL : L = bfs o [] 0) (hk : L.length ≤ k) : l = perL o := by
  have hn := v.pos
  have hall : ∀ x, Sq o.1.length x → x ∈ L := fun x hx => by rw [hL]; exact cn.all v ⟨Int.le_refl _, by omega⟩ hx
  refine perL_eq v (h.ps.pot hall) h.nf fun u => (h.sp u).trans ?_
  constructor
  · refine Sp.mono fun d ⟨i, e, h3, h4, h5⟩ => Sp.gen ⟨nth L i, h.gd.rng _ (nth_mem h4), ?_⟩
    subst h5
    rcases e with _ | _ | e
    · exact .inl rfl
    · exact .inr rfl
    · exact absurd h3.1 (by omega)
  · refine Sp.mono fun d ⟨x, hx, hd⟩ => Sp.gen ?_
    obtain ⟨i, hi, rfl⟩ := mem_nth (hall x hx)
    rcases hd with rfl | rfl
    · exact ⟨i, 0, ⟨by omega, .inl (by omega)⟩, hi, rfl⟩
    · exact ⟨i, 1, ⟨by omega, .inl (by omega)⟩, hi, rfl⟩
end
end Go.Fl

/- Automorphisms, and the quotient by them. Plain Lean, no program in sight. -/
namespace Go.Fl
theorem ap_sqs {n : Nat} {x : Int} (h : Sq n x) : ap (sqs n) x = x := by
  have := h.1; have := h.2
  unfold ap sqs
  rw [nth_tab (by omega)]; omega
theorem sqs_len {n : Nat} : (sqs n).length = n := tab_len
theorem ap_thn {f g : List Int} {n : Nat} (hl : f.length = n) {x : Int} (hx : Sq n x) : ap (thenL f g) x = ap g (ap f x) := by
  have := hx.1; have := hx.2
  unfold ap thenL
  rw [nth_tab (by omega)]
theorem inR_of_ap {f : List Int} {n m : Nat} (hl : f.length = n) (h : ∀ x, Sq n x → Sq m (ap f x)) : inR f m := fun i hi => by
  have := h (i : Int) (Sq.nat (by rw [← hl]; exact hi))
  simpa [ap, Sq] using this
theorem hom_id {o : Ori} (v : Valid o) : IsHom o o (sqs o.1.length) :=
  ⟨sqs_len, inR_of_ap (n := o.1.length) sqs_len fun x hx => by rw [ap_sqs hx]; exact hx, fun x hx => by rw [ap_sqs (v.pR.aps hx), ap_sqs hx], fun x hx => by rw [ap_sqs (v.pU.aps hx), ap_sqs hx]⟩
theorem hom_comp {a b c : Ori} (va : Valid a) {f g : List Int} (hf : IsHom a b f) (hg : IsHom b c g) : IsHom a c (thenL f g) := by
  have e := fun {x} (hx : Sq a.1.length x) => ap_thn (g := g) hf.len hx
  refine ⟨by rw [thenL_len]; exact hf.len, inR_of_ap (n := a.1.length) (by rw [thenL_len]; exact hf.len) fun x hx => by rw [e hx]; exact hg.sq (hf.sq hx), fun x hx => ?_, fun x hx => ?_⟩
  · rw [e (va.pR.aps hx), e hx, hf.R x hx, hg.R _ (hf.sq hx)]
  · rw [e (va.pU.aps hx), e hx, hf.U x hx, hg.U _ (hf.sq hx)]
section
variable {o : Ori}
/-- A map between origamis meets every square, if the other one is connected. -/
theorem hom_onto {a b : Ori} (va : Valid a) (vb : Valid b) (cb : Conn b) {f : List Int} (h : IsHom a b f) {y : Int} (hy : Sq b.1.length y) : ∃ x, Sq a.1.length x ∧ ap f x = y := by
  have hp := va.pos
  have h0 : Sq a.1.length 0 := ⟨by omega, by omega⟩
  have hs := h.sq h0
  refine reach_min (G := fun y => ∃ x, Sq a.1.length x ∧ ap f x = y) vb hs (fun z _ hz => ?_) ⟨0, h0, rfl⟩ y (cb.all vb hs hy)
  obtain ⟨x, hx, rfl⟩ := hz
  exact ⟨⟨_, va.pR.aps hx, h.R x hx⟩, ⟨_, va.pU.aps hx, h.U x hx⟩⟩
/-- A list of n numbers below n that meets all of them. -/
theorem onto_sec {f : List Int} {n : Nat} (hl : f.length = n) (h : ∀ y, Sq n y → ∃ x, Sq n x ∧ ap f x = y) : ∃ g, Perm g n ∧ (∀ y, Sq n y → ap f (ap g y) = y) ∧ ∀ x, Sq n x → ap g (ap f x) = x := by
  have hmem : ∀ y, Sq n y → y ∈ f := fun y hy => by
    obtain ⟨x, hx, rfl⟩ := h y hy
    exact nth_mem (by have := hx.1; have := hx.2; omega)
  have hg : ∀ y, Sq n y → ap (tab n fun i : Nat => atL f i) y = atL f y := fun y hy => by
    have := hy.1; have := hy.2
    unfold ap
    rw [nth_tab (by omega), show ((y.toNat : Nat) : Int) = y by omega]
  have hfg : ∀ y, Sq n y → ap f (ap (tab n fun i : Nat => atL f i) y) = y := fun y hy => by rw [hg y hy]; exact nth_atL (hmem y hy)
  have hrg : ∀ y, Sq n y → Sq n (ap (tab n fun i : Nat => atL f i) y) := fun y hy => by
    rw [hg y hy]; have := atL_rng (hmem y hy); rw [hl] at this; exact this
  have P : Perm (tab n fun i : Nat => atL f i) n := by
    refine ⟨nodup_of_nth fun i j hi hj e => ?_, inR_of_ap tab_len hrg, tab_len⟩
    rw [tab_len] at hi hj
    have e1 := hfg i (Sq.nat hi)
    have e2 := hfg j (Sq.nat hj)
    unfold ap at e1 e2
    simp only [Int.toNat_natCast] at e1 e2
    rw [e] at e1
    omega
  refine ⟨_, P, hfg, fun x hx => ?_⟩
  obtain ⟨y, hy, rfl⟩ := P.onto hx
  rw [hfg y hy]
/-- An automorphism has an inverse. -/
theorem aut_inv (v : Valid o) (c : Conn o) {f : List Int} (h : IsHom o o f) : ∃ g, IsHom o o g ∧ ∀ x, Sq o.1.length x → ap g (ap f x) = x := by
  obtain ⟨g, P, h1, h2⟩ := onto_sec h.len fun y hy => hom_onto v v c h hy
  refine ⟨g, ⟨P.ln, P.rg, fun x hx => ?_, fun x hx => ?_⟩, h2⟩
  · have e := h.R _ (P.aps hx)
    rw [h1 x hx] at e
    rw [← e, h2 _ (v.pR.aps (P.aps hx))]
  · have e := h.U _ (P.aps hx)
    rw [h1 x hx] at e
    rw [← e, h2 _ (v.pU.aps (P.aps hx))]
def Rel (o : Ori) (x y : Int) : Prop := ∃ f, IsHom o o f ∧ ap f x = y
theorem Rel.refl (v : Valid o) {x : Int} (hx : Sq o.1.length x) : Rel o x x := ⟨_, hom_id v, ap_sqs hx⟩
theorem Rel.symm (v : Valid o) (c : Conn o) {x y : Int} (hx : Sq o.1.length x) (h : Rel o x y) : Rel o y x := by
  obtain ⟨f, hf, rfl⟩ := h
  obtain ⟨g, hg, e⟩ := aut_inv v c hf
  exact ⟨g, hg, e x hx⟩
theorem Rel.trans (v : Valid o) {x y z : Int} (hx : Sq o.1.length x) (h : Rel o x y) (k : Rel o y z) : Rel o x z := by
  obtain ⟨f, hf, rfl⟩ := h
  obtain ⟨g, hg, rfl⟩ := k
  exact ⟨_, hom_comp v hf hg, ap_thn hf.len hx⟩
theorem Rel.sq {x y : Int} (hx : Sq o.1.length x) (h : Rel o x y) : Sq o.1.length y := by
  obtain ⟨f, hf, rfl⟩ := h
  exact hf.sq hx
theorem Rel.R {x y : Int} (hx : Sq o.1.length x) (h : Rel o x y) : Rel o (ap o.1 x) (ap o.1 y) := by
  obtain ⟨f, hf, rfl⟩ := h
  exact ⟨f, hf, hf.R x hx⟩
theorem Rel.U {x y : Int} (hx : Sq o.1.length x) (h : Rel o x y) : Rel o (ap o.2 x) (ap o.2 y) := by
  obtain ⟨f, hf, rfl⟩ := h
  exact ⟨f, hf, hf.U x hx⟩
/-! ### The least of a class -/
def mnL (A : List (List Int)) (x : Int) : Nat → Int
  | 0 => x
  | i + 1 => min (mnL A x i) (ap (nth A i) x)
theorem mnL_le {A : List (List Int)} {x : Int} : ∀ {i : Nat}, mnL A x i ≤ x ∧ ∀ j, j < i → mnL A x i ≤ ap (nth A j) x
  | 0 => ⟨Int.le_refl _, fun _ h => absurd h (by omega)⟩
  | i + 1 => by
    have := mnL_le (A := A) (x := x) (i := i)
    rw [mnL]
    refine ⟨by omega, fun j hj => ?_⟩
    by_cases e : j = i
    · subst e; omega
    · have := this.2 j (by omega); omega
theorem mnL_at {A : List (List Int)} {x : Int} : ∀ {i : Nat}, mnL A x i = x ∨ ∃ j, j < i ∧ mnL A x i = ap (nth A j) x
  | 0 => .inl rfl
  | i + 1 => by
    rw [mnL]
    rcases Int.le_total (mnL A x i) (ap (nth A i) x) with h | h
    · rw [Int.min_eq_left h]
      rcases mnL_at (A := A) (x := x) (i := i) with e | ⟨j, hj, e⟩
      · exact .inl e
      · exact .inr ⟨j, by omega, e⟩
    · rw [Int.min_eq_right h]; exact .inr ⟨i, by omega, rfl⟩
noncomputable def mnO (o : Ori) (x : Int) : Int := mnL (mapsL o o) x (mapsL o o).length
theorem mnO_rel (v : Valid o) (c : Conn o) {x : Int} (hx : Sq o.1.length x) : Rel o x (mnO o x) := by
  unfold mnO
  rcases mnL_at (A := mapsL o o) (x := x) (i := (mapsL o o).length) with e | ⟨j, hj, e⟩
  · rw [e]; exact Rel.refl v hx
  · rw [e]; exact ⟨_, (mem_mapsL v c).1 (nth_mem hj), rfl⟩
theorem mnO_le (v : Valid o) (c : Conn o) {x y : Int} (h : Rel o x y) : mnO o x ≤ y := by
  obtain ⟨f, hf, rfl⟩ := h
  obtain ⟨j, hj, e⟩ := List.getElem_of_mem ((mem_mapsL v c).2 hf)
  have := (mnL_le (A := mapsL o o) (x := x)).2 j hj
  rw [show nth (mapsL o o) j = f by rw [nth_of_get? (List.getElem?_eq_getElem hj)]; exact e] at this
  exact this
theorem mnO_sq (v : Valid o) (c : Conn o) {x : Int} (hx : Sq o.1.length x) : Sq o.1.length (mnO o x) := (mnO_rel v c hx).sq hx
theorem mnO_self (v : Valid o) (c : Conn o) {x : Int} (hx : Sq o.1.length x) : mnO o x ≤ x := mnO_le v c (Rel.refl v hx)
theorem mnO_eq (v : Valid o) (c : Conn o) {x y : Int} (hx : Sq o.1.length x) (h : Rel o x y) : mnO o x = mnO o y := by
  have hy := h.sq hx
  have h1 := mnO_le v c (h.trans v hx (mnO_rel v c hy))
  have h2 := mnO_le v c ((h.symm v c hx).trans v hy (mnO_rel v c hx))
  omega
theorem mnO_iff (v : Valid o) (c : Conn o) {x y : Int} (hx : Sq o.1.length x) (hy : Sq o.1.length y) : mnO o x = mnO o y ↔ Rel o x y := by
  refine ⟨fun e => ?_, mnO_eq v c hx⟩
  have h1 := mnO_rel v c hx
  rw [e] at h1
  exact h1.trans v hx ((mnO_rel v c hy).symm v c hy)
theorem mnO_mnO (v : Valid o) (c : Conn o) {x : Int} (hx : Sq o.1.length x) : mnO o (mnO o x) = mnO o x := (mnO_eq v c hx (mnO_rel v c hx)).symm
/-! ### The classes -/
noncomputable def frs (o : Ori) : Nat → List Int
  | 0 => []
  | k + 1 => if mnO o k = k then frs o k ++ [(k : Int)] else frs o k
theorem mem_frs {k : Nat} {x : Int} : x ∈ frs o k ↔ Sq k x ∧ mnO o x = x := by
  induction k with
  | zero => simp [frs, Sq]; omega
  | succ k ih =>
    rw [frs]
    by_cases e : mnO o k = k
    · rw [if_pos e, List.mem_append, ih, List.mem_singleton]
      unfold Sq
      constructor
      · rintro (⟨h1, h2⟩ | rfl)
        · exact ⟨⟨h1.1, by omega⟩, h2⟩
        · exact ⟨⟨by omega, by omega⟩, e⟩
      · rintro ⟨⟨h1, h2⟩, h3⟩
        by_cases e2 : x = k
        · exact .inr e2
        · exact .inl ⟨⟨h1, by omega⟩, h3⟩
    · rw [if_neg e, ih]
      unfold Sq
      constructor
      · rintro ⟨h1, h2⟩; exact ⟨⟨h1.1, by omega⟩, h2⟩
      · rintro ⟨⟨h1, h2⟩, h3⟩
        refine ⟨⟨h1, ?_⟩, h3⟩
        by_cases e2 : x = k
        · subst e2; exact absurd h3 e
        · omega
theorem frs_self {k : Nat} : (k : Int) ∉ frs o k := fun h => by have := (mem_frs.1 h).1.2; omega
theorem frs_nodup : ∀ {k : Nat}, (frs o k).Nodup
  | 0 => List.nodup_nil
  | k + 1 => by
    rw [frs]; split
    · exact List.nodup_append.2 ⟨frs_nodup, by simp, fun a ha b hb e => by simp at hb; subst hb; subst e; exact frs_self ha⟩
    · exact frs_nodup
theorem frs_len {k : Nat} : (frs o k).length ≤ k := Good.len ⟨frs_nodup, fun _ h => (mem_frs.1 h).1⟩
theorem frs_yes {k : Nat} (h : mnO o k = k) : frs o (k + 1) = frs o k ++ [(k : Int)] := if_pos h
theorem frs_no {k : Nat} (h : mnO o k ≠ k) : frs o (k + 1) = frs o k := if_neg h
noncomputable def clsTo (o : Ori) (k : Nat) : List Int := tab o.1.length fun y : Nat => atL (frs o k) (mnO o y)
noncomputable def clsIn (o : Ori) (k i : Nat) : List Int := tab o.1.length fun y : Nat => if (y : Int) ∈ ((mapsL o o).take i).map (ap · k) then ((frs o k).length : Int) else atL (frs o k) (mnO o y)
noncomputable def cls (o : Ori) : List Int := clsTo o o.1.length
theorem clsTo_len {k : Nat} : (clsTo o k).length = o.1.length := tab_len
theorem clsIn_len {k i : Nat} : (clsIn o k i).length = o.1.length := tab_len
theorem clsTo_zero : List.replicate o.1.length (-1) = clsTo o 0 := by rw [tab_rep]; rfl
theorem clsTo_neg (v : Valid o) (c : Conn o) {k : Nat} (hk : k < o.1.length) : nth (clsTo o k) k < 0 ↔ mnO o k = k := by
  unfold clsTo
  rw [nth_tab hk, atL_neg, mem_frs]
  have h1 := mnO_self v c (Sq.nat hk)
  have h2 := (mnO_sq v c (Sq.nat hk)).1
  have h3 := mnO_mnO v c (Sq.nat hk)
  unfold Sq
  constructor
  · intro h
    exact Classical.byContradiction fun hh => h ⟨⟨h2, by omega⟩, h3⟩
  · rintro h ⟨⟨_, h4⟩, _⟩; omega
theorem clsTo_same {k : Nat} (h : mnO o k ≠ k) : clsTo o (k + 1) = clsTo o k := by unfold clsTo; rw [frs_no h]
theorem clsIn_zero {k : Nat} : clsTo o k = clsIn o k 0 := by unfold clsTo clsIn; exact tab_congr fun j _ => by simp
theorem clsIn_succ (v : Valid o) (c : Conn o) {k i : Nat} (hk : k < o.1.length) (hi : i < (mapsL o o).length) : (clsIn o k i).set (ap (nth (mapsL o o) i) k).toNat ((frs o k).length : Int) = clsIn o k (i + 1) := by
  have hs := ((mem_mapsL v c).1 (nth_mem hi)).sq (Sq.nat hk)
  have := hs.1
  unfold clsIn
  rw [tab_set]
  refine tab_congr fun j _ => ?_
  rw [take_succ_nth hi, List.map_append]
  simp only [List.mem_append, List.map_cons, List.map_nil, List.mem_singleton]
  by_cases e : j = (ap (nth (mapsL o o) i) k).toNat
  · rw [if_pos e, if_pos (.inr (by omega))]
  · rw [if_neg e]
    by_cases e2 : (j : Int) ∈ ((mapsL o o).take i).map (ap · k)
    · rw [if_pos e2, if_pos (.inl e2)]
    · rw [if_neg e2, if_neg]
      rintro (h | h)
      · exact e2 h
      · omega
theorem clsIn_end (v : Valid o) (c : Conn o) {k : Nat} (hk : k < o.1.length) (h : mnO o k = k) : clsIn o k (mapsL o o).length = clsTo o (k + 1) := by
  unfold clsIn clsTo
  rw [List.take_length, frs_yes h]
  refine tab_congr fun j hj => ?_
  have hm : (j : Int) ∈ (mapsL o o).map (ap · k) ↔ mnO o j = k := by
    have e1 : mnO o j = k ↔ Rel o k j := by
      rw [← mnO_iff v c (Sq.nat hk) (Sq.nat hj), h]; exact eq_comm
    rw [e1, List.mem_map]
    constructor
    · rintro ⟨f, h1, h2⟩; exact ⟨f, (mem_mapsL v c).1 h1, h2⟩
    · rintro ⟨f, h1, h2⟩; exact ⟨f, (mem_mapsL v c).2 h1, h2⟩
  by_cases e : mnO o j = k
  · rw [if_pos (hm.2 e), e, atL_new frs_self]
  · rw [if_neg (fun h => e (hm.1 h)), atL_other e]
noncomputable def quoF (o : Ori) (p : List Int) (i : Nat) : Int := ap (cls o) (ap p (nth (frs o o.1.length) i))
noncomputable def quoO (o : Ori) : Ori := (tab (frs o o.1.length).length (quoF o o.1), tab (frs o o.1.length).length (quoF o o.2))
theorem cls_ap {x : Int} (hx : Sq o.1.length x) : ap (cls o) x = atL (frs o o.1.length) (mnO o x) := by
  have := hx.1; have := hx.2
  unfold ap cls clsTo
  rw [nth_tab (by omega), show ((x.toNat : Nat) : Int) = x by omega]
theorem mn_frs (v : Valid o) (c : Conn o) {x : Int} (hx : Sq o.1.length x) : mnO o x ∈ frs o o.1.length := mem_frs.2 ⟨mnO_sq v c hx, mnO_mnO v c hx⟩
theorem cls_sq (v : Valid o) (c : Conn o) {x : Int} (hx : Sq o.1.length x) : Sq (frs o o.1.length).length (ap (cls o) x) := by
  rw [cls_ap hx]; exact atL_rng (mn_frs v c hx)
theorem cls_eq (v : Valid o) (c : Conn o) {x y : Int} (hx : Sq o.1.length x) (hy : Sq o.1.length y) : ap (cls o) x = ap (cls o) y ↔ Rel o x y := by
  rw [cls_ap hx, cls_ap hy, ← mnO_iff v c hx hy]
  refine ⟨fun e => ?_, fun e => by rw [e]⟩
  rw [← nth_atL (mn_frs v c hx), ← nth_atL (mn_frs v c hy), e]
theorem cls_frs {i : Nat} (hi : i < (frs o o.1.length).length) : Sq o.1.length (nth (frs o o.1.length) i) ∧ ap (cls o) (nth (frs o o.1.length) i) = i := by
  have hm := mem_frs.1 (nth_mem hi)
  refine ⟨hm.1, ?_⟩
  rw [cls_ap hm.1, hm.2]
  exact (atL_at hi (fun j hj e => by have := nodup_nth frs_nodup (i := j) (j := i) (by omega) hi e; omega) rfl).symm
theorem frs_pos (v : Valid o) (c : Conn o) : 0 < (frs o o.1.length).length := by
  have hp := v.pos
  have h := cls_sq v c (x := 0) ⟨by omega, by omega⟩
  have h1 := h.1; have h2 := h.2
  omega
theorem quo_hom (v : Valid o) (c : Conn o) : IsHom o (quoO o) (cls o) := by
  have hq1 : (quoO o).1.length = (frs o o.1.length).length := tab_len
  have key : ∀ {p : List Int}, (∀ x, Sq o.1.length x → Sq o.1.length (ap p x)) → (∀ x y, Sq o.1.length x → Rel o x y → Rel o (ap p x) (ap p y)) → ∀ x, Sq o.1.length x → ap (cls o) (ap p x) = ap (tab (frs o o.1.length).length (quoF o p)) (ap (cls o) x) := fun {p} hp hr x hx => by
    have hs := cls_sq v c hx
    have h1 := hs.1; have h2 := hs.2
    have hi : (ap (cls o) x).toNat < (frs o o.1.length).length := by omega
    obtain ⟨f1, f2⟩ := cls_frs hi
    rw [show ap (tab (frs o o.1.length).length (quoF o p)) (ap (cls o) x) = quoF o p (ap (cls o) x).toNat from nth_tab hi]
    unfold quoF
    refine (cls_eq v c (hp _ hx) (hp _ f1)).2 (hr _ _ hx ((cls_eq v c hx f1).1 ?_))
    rw [f2]; omega
  exact ⟨clsTo_len, inR_of_ap clsTo_len fun x hx => by rw [hq1]; exact cls_sq v c hx, key (fun _ => v.pR.aps) (fun _ _ hx h => h.R hx), key (fun _ => v.pU.aps) (fun _ _ hx h => h.U hx)⟩
theorem quo_perm (v : Valid o) (c : Conn o) {p : List Int} (P : Perm p o.1.length) (hf : ∀ f, IsHom o o f → ∀ x, Sq o.1.length x → ap f (ap p x) = ap p (ap f x)) : chkL (tab (frs o o.1.length).length (quoF o p)) (frs o o.1.length).length = 0 := by
  have hs := fun {i} (hi : i < (frs o o.1.length).length) => (cls_frs hi).1
  refine chkL_zero.2 ⟨fun i hi => ?_, nodup_of_nth fun i j hi hj e => ?_⟩
  · rw [tab_len] at hi
    rw [nth_tab hi]
    exact cls_sq v c (P.aps (hs hi))
  · rw [tab_len] at hi hj
    rw [nth_tab hi, nth_tab hj] at e
    obtain ⟨f, h1, h2⟩ := (cls_eq v c (P.aps (hs hi)) (P.aps (hs hj))).1 e
    rw [hf f h1 _ (hs hi)] at h2
    have h3 := P.inj (h1.sq (hs hi)) (hs hj) h2
    have h4 := (cls_eq v c (hs hi) (hs hj)).2 ⟨f, h1, h3⟩
    rw [(cls_frs hi).2, (cls_frs hj).2] at h4
    omega
theorem quo_chk (v : Valid o) (c : Conn o) : chkO (quoO o) = 0 := by
  have h1 : (quoO o).1.length = (frs o o.1.length).length := tab_len
  have h2 : (quoO o).2.length = (frs o o.1.length).length := tab_len
  have := frs_pos v c
  have := frs_len (o := o) (k := o.1.length)
  have := v.le
  refine chkO_good (by omega) (by omega) (by omega) ?_ ?_
  · rw [h1]; exact quo_perm v c v.pR fun f hf x hx => hf.R x hx
  · rw [h2]; exact quo_perm v c v.pU fun f hf x hx => hf.U x hx
theorem quo_cover (v : Valid o) (c : Conn o) : cmE o (quoO o) (cls o) false = 0 := by
  have hh := quo_hom v c
  have h1 : (quoO o).1.length = (frs o o.1.length).length := tab_len
  refine cmE_0 (chkO_of v) (quo_chk v c) (by rintro (h | h); exact h hh.len; exact absurd h.1 (by simp)) hh.rng ((isMapB_iff hh.len hh.rng).2 hh) (ontoB_all fun y hy => ?_)
  rw [h1] at hy
  obtain ⟨f1, f2⟩ := cls_frs hy
  rw [← f2]
  exact nth_mem (by rw [hh.len]; have := f1.1; have := f1.2; omega)
/-! ### The number of automorphisms divides that of the squares -/
theorem mapsL_nodup : (mapsL o o).Nodup := by
  have hk : ∀ k, (mapsTo o o k).Nodup ∧ ∀ f ∈ mapsTo o o k, ap f 0 < k := by
    intro k
    induction k with
    | zero => exact ⟨by simp [mapsTo], fun f h => by simp [mapsTo] at h⟩
    | succ k ih =>
      cases e : homAt o o k with
      | none =>
        rw [mapsTo_none e]
        exact ⟨ih.1, fun f h => by have := ih.2 f h; omega⟩
      | some g =>
        have hg := (homAt_hom e).2
        rw [mapsTo_some e]
        refine ⟨List.nodup_append.2 ⟨ih.1, by simp, fun a ha b hb e2 => ?_⟩, fun f h => ?_⟩
        · simp at hb; subst hb; subst e2
          have := ih.2 _ ha; omega
        · rcases List.mem_append.1 h with h | h
          · have := ih.2 f h; omega
          · simp at h; subst h; omega
  exact (hk _).1
theorem mapsL_pos (v : Valid o) (c : Conn o) : 0 < (mapsL o o).length := List.length_pos_iff.2 (List.ne_nil_of_mem ((mem_mapsL v c).2 (hom_id v)))
theorem flat_nodup {α : Type} {g : α → List Int} : ∀ {l : List α}, l.Nodup → (∀ x ∈ l, (g x).Nodup) → (∀ x ∈ l, ∀ y ∈ l, ∀ z, z ∈ g x → z ∈ g y → x = y) → (l.flatMap g).Nodup
  | [], _, _, _ => by simp
  | a :: l, hn, h1, h2 => by
    rw [List.flatMap_cons]
    obtain ⟨ha, hl⟩ := List.nodup_cons.1 hn
    refine List.nodup_append.2 ⟨h1 a List.mem_cons_self, flat_nodup hl (fun x hx => h1 x (List.mem_cons_of_mem _ hx)) (fun x hx y hy => h2 x (List.mem_cons_of_mem _ hx) y (List.mem_cons_of_mem _ hy)), fun z hz w hw e => ?_⟩
    subst e
    obtain ⟨y, hy, hz2⟩ := List.mem_flatMap.1 hw
    have := h2 a List.mem_cons_self y (List.mem_cons_of_mem _ hy) z hz hz2
    subst this
    exact ha hy
theorem flat_len {α : Type} {g : α → List Int} {m : Nat} : ∀ {l : List α}, (∀ x ∈ l, (g x).length = m) → (l.flatMap g).length = l.length * m
  | [], _ => by simp
  | a :: l, h => by
    rw [List.flatMap_cons, List.length_append, h a List.mem_cons_self, flat_len fun x hx => h x (List.mem_cons_of_mem _ hx), List.length_cons, Nat.add_mul]
    omega
theorem aut_div (v : Valid o) (c : Conn o) : o.1.length = (frs o o.1.length).length * (mapsL o o).length := by
  have hf : ∀ i ∈ frs o o.1.length, Sq o.1.length i := fun i hi => (mem_frs.1 hi).1
  have hmem : ∀ i ∈ frs o o.1.length, ∀ z, z ∈ (mapsL o o).map (ap · i) ↔ Rel o i z := fun i hi z => by
    rw [List.mem_map]
    constructor
    · rintro ⟨f, h1, h2⟩; exact ⟨f, (mem_mapsL v c).1 h1, h2⟩
    · rintro ⟨f, h1, h2⟩; exact ⟨f, (mem_mapsL v c).2 h1, h2⟩
  have hn : ((frs o o.1.length).flatMap fun i => (mapsL o o).map (ap · i)).Nodup := by
    refine flat_nodup frs_nodup (fun i hi => ?_) (fun i hi j hj z h1 h2 => ?_)
    · exact List.pairwise_map.2 ((mapsL_nodup).imp_of_mem fun {f g} h1 h2 hne e => hne (hom_uniq v c ((mem_mapsL v c).1 h1) ((mem_mapsL v c).1 h2) (hf i hi) e))
    · have e1 := mnO_eq v c (hf i hi) ((hmem i hi z).1 h1)
      have e2 := mnO_eq v c (hf j hj) ((hmem j hj z).1 h2)
      rw [(mem_frs.1 hi).2] at e1
      rw [(mem_frs.1 hj).2] at e2
      omega
  have hp : ((frs o o.1.length).flatMap fun i => (mapsL o o).map (ap · i)).Perm (sqs o.1.length) := (List.perm_ext_iff_of_nodup hn (nodup_of_lt sqs_lt)).2 fun x => by
    rw [mem_sqs, List.mem_flatMap]
    constructor
    · rintro ⟨i, hi, hx⟩; exact ((hmem i hi x).1 hx).sq (hf i hi)
    · intro hx
      exact ⟨mnO o x, mn_frs v c hx, (hmem _ (mn_frs v c hx) x).2 ((mnO_rel v c hx).symm v c hx)⟩
  have := hp.length_eq
  rw [sqs_len, flat_len (m := (mapsL o o).length) (fun i _ => by simp)] at this
  exact this.symm
end
end Go.Fl

/- Elements of an array of the call's own at a place that is not written out; parts of the elements of a row of the call's own. No program in sight. -/
namespace Go.Fl
open Go Go.RowKit
/-- A pointer to cell o of element i (of n cells) of one of the call's own rows, which has len elements. -/
def kElO (t n i len o : Nat) : Know := fun g v => i < len ∧ ∃ b cap, g.M t = some (.blk b cap) ∧ v = .pointer (some ⟨b, i * n + o, none⟩)
instance (t n i l o : Nat) : KDep (kElO t n i l o) [t] := ⟨fun _ hd ⟨h0, b, cap, h1, h2⟩ => ⟨h0, b, cap, (hd t (by simp)).trans h1, h2⟩⟩
instance {t n i l o : Nat} : OneC (kElO t n i l o) := ⟨fun ⟨_, _, _, _, h⟩ => by subst h; rfl⟩
instance (t n i l o : Nat) : KHas (kElO t n i l o) t := ⟨fun ⟨_, b, cap, h1, _⟩ => by rw [h1]; simp⟩
instance : ZeroE (eP eI (eP eI eU)) (.agg #[.int .i64 0, .int .i64 0]) (0, 0, ()) := ⟨fun _ => ⟨[.int .i64 0], [.int .i64 0], rfl, rfl, [.int .i64 0], [], rfl, rfl, rfl⟩⟩
/-- Cell o of what is encoded is the number f. -/
def CellI {α : Type} (e : Enc α) (o : Nat) (f : α → Int) : Prop := ∀ {J : JV} {ds : List Value} {x : α}, e.rd J ds x → ds[o]? = some (.int .i64 (f x))
section
variable {P : Program} {c : Ctx} {S : Slots} {M : Conts} {p : Bool} {d : Option Tmp} {ty : TypeId} {pos : String} {af : Array Edge} {gd : Option (Nat × Bool)} {x y : Operand} {b b' : Bool}
end
section
variable {P : Program} {c : Ctx} {ops : Array Oper} {S : Slots} {M : Conts} {rest : List Oper} {Q : Exit → Act → World → Prop} {x y : Operand}
variable {ty : TypeId} {pos : String} {af : Array Edge}
end
section
variable {P : Program} {c : Ctx} {ops : Array Oper} {S : Slots} {M : Conts} {rest : List Oper} {Q : Exit → Act → World → Prop}
variable {d : Nat} {ty : TypeId} {pos : String} {af : Array Edge}
end
end Go.Fl

/- Contracts: the periods, in the program. -/
namespace Go.Fl
open Go Go.Proofs

end Go.Fl

/- Structs of integers that are equal. No program in sight. -/
namespace Go.Fl
open Go Go.RowKit
/-- A value that is a struct of integers, all of them known. -/
class KInts (k : Know) (xs : outParam (List Int)) : Prop where
  imp : ∀ {g : Gh} {v : Value}, k g v → v = .agg (xs.map (Value.int .i64)).toArray
instance {a b c : Int} : KInts (kAgg [kI a, kI b, kI c]) [a, b, c] := ⟨fun {g v} h => by
  obtain ⟨cs, rfl, h2⟩ := h
  match cs, h2 with
  | [_, _, _], ⟨rfl, rfl, rfl, _⟩ => rfl⟩
section
variable {P : Program} {c : Ctx} {S : Slots} {M : Conts} {p : Bool} {d : Option Tmp} {ty : TypeId} {pos : String} {af : Array Edge} {gd : Option (Nat × Bool)} {x y : Operand} {b b' : Bool}
end
end Go.Fl

/- Contracts: the law of strata. -/
namespace Go.Fl
open Go Go.Proofs

instance : TyInts Try.prog 69 3 := TyInts.mk' (by kernel_rfl) (by kernel_rfl) (by kernel_rfl) (by kernel_rfl)

instance {l : L3} : KInts (kRd eLat l) [l.1, l.2.1, l.2.2] := ⟨fun {g v} h => by
  obtain ⟨cs, h1, rfl⟩ := h
  obtain ⟨_, _, rfl, rfl, _, _, rfl, rfl, _, _, rfl, rfl, rfl⟩ := h1
  rfl⟩

end Go.Fl
