/- Laws on walking typed knowledge through code, and contracts. -/
import Derived.Test.YtphkjcmonjbpfaaM3

/- Contracts: components, numberings, labels. -/
namespace Go.Fl
open Go Go.Proofs

instance : NB 10 13 := ⟨rfl⟩

theorem ctb_srt {z : Bool} {ty : TypeId} {xs : List Int} {len : Nat} (hlen : 0 < len) (hm : len ≤ 1000000) : CtB Try.prog 118 (kOsl 0 len) [] (cArr z ty eI xs len) (cArr z ty eI (sortI xs) len) (kDet (.tuple #[])) := ctb_sort Try.lays189 hlen hm

set_option maxRecDepth 100000 in
theorem ct_numbering (o : Ori) (s : Int) (v : Valid o) (hs : Sq o.1.length s) : Ct Try.prog 67 [kRd eO o, kI s] (kRd (eL eI) (numL o s)) := by
  have hv0 := v.pos
  have hv1 := v.len
  have hv2 := v.le
  have hs0 := hs.1
  have hs1 := hs.2
  refine Ct.mk Try.func67 rfl Try.ntmps67 rfl (fun w J => ?_)
  refine Tr.seq ?_
  refine Tr.rg ?_
  refine TrL.new (ok_box 2 rfl (fun _ => rfl) rfl) rfl rfl rfl rfl ?_
  refine TrL.op (ok_assign rfl (fun _ => rfl)) rfl rfl ?_
  refine TrL.fin ?_
  refine End.nxt ?_
  refine Tr.seq ?_
  refine Tr.rg ?_
  refine TrL.op (ok_bslJ eI (fun hp => .cons rfl <| .nil) rfl rfl rfl rfl) rfl rfl ?_
  refine TrL.op (ok_fldO rfl (fun _ => rfl)) rfl rfl ?_
  refine TrL.op (ok_ldB rfl (fun _ => rfl) rfl) rfl rfl ?_
  refine TrL.op (ok_lenJ rfl (fun _ => rfl)) rfl rfl ?_
  refine TrL.new (ok_callN 14 (fun hp => ct_RepeatN _ _ (by omega) (by omega)) (.a rfl (fun _ => rfl) <| .a rfl (fun _ => rfl) <| .nil)) rfl rfl rfl rfl ?_
  refine TrL.op (ok_assign rfl (fun _ => rfl)) rfl rfl ?_
  refine TrL.fin ?_
  refine End.nxt ?_
  refine Tr.seq ?_
  refine Tr.rg ?_
  refine TrL.op (ok_move rfl (fun _ => rfl)) rfl rfl ?_
  refine TrL.op (ok_move rfl (fun _ => rfl)) rfl rfl ?_
  first | refine TrL.op (ok_idxEN rfl (fun _ => rfl) rfl (fun _ => rfl) (fun _ => by omega)) rfl rfl ?_ | refine TrL.op (ok_idxE rfl (fun _ => rfl) rfl (fun _ => rfl) (fun _ => by omega)) rfl rfl ?_
  refine TrL.stE rfl rfl rfl rfl rfl ?_
  refine TrL.fin ?_
  refine End.nxt ?_
  refine Tr.seq ?_
  refine Tr.rg ?_
  refine TrL.op (ok_move rfl (fun _ => rfl)) rfl rfl ?_
  refine TrL.new (ok_bsl eI 19 (fun hp => .cons rfl <| .nil) rfl rfl rfl rfl) rfl rfl rfl rfl ?_
  refine TrL.op (ok_assign rfl (fun _ => rfl)) rfl rfl ?_
  refine TrL.fin ?_
  refine End.nxt ?_
  refine Tr.seq ?_
  refine Tr.seq ?_
  refine Tr.rg ?_
  refine TrL.op (ok_assign rfl (fun _ => rfl)) rfl rfl ?_
  refine TrL.fin ?_
  refine End.nxt ?_
  refine Tr.for1 (σ := Nat) [⟨2, true, _, _⟩, ⟨5, true, _, _⟩] [⟨2, _, _⟩] (fun k => [⟨6, true, [19], kOsl 19 (bfsTo o [] s k).length⟩, ⟨7, true, [], kI (k : Int)⟩]) (fun k => [⟨14, [], cArr false 3 eI (numN o.1.length (bfsTo o [] s k)) o.1.length⟩, ⟨19, [], cArr false 3 eI (bfsTo o [] s k) (bfsTo o [] s k).length⟩]) (fun k => k ≤ o.1.length) (fun k => (bfsTo o [] s k).length ≤ k) (fun k => o.1.length - k) (0) (Nat.zero_le _) (Ent.mk (.o rfl (by first | rfl | omega | (simp; done) | (simp; omega) | assumption) rfl <| .i rfl (by first | rfl | omega | (simp; done) | (simp; omega) | assumption) <| .k rfl rfl <| .k rfl rfl <| .nil) (.a (numN_start hs.1) (by first | rfl | omega | (simp; done) | (simp; omega) | assumption) <| .a (by first | rfl | omega | (simp; done) | (simp; omega) | assumption) (by first | rfl | omega | (simp; done) | (simp; omega) | assumption) <| .k rfl <| .nil) rfl) ?_ ?_
  · intro k hR0
    refine Tr.norm (S' := [⟨6, true, _, _⟩, ⟨7, true, _, _⟩, ⟨2, true, _, _⟩, ⟨5, true, _, _⟩]) (M' := [⟨14, _, _⟩, ⟨19, _, _⟩, ⟨2, _, _⟩]) rfl rfl ?_
    have hlen := bfsTo_len v (good1 hs) k
    refine Tr.seq ?_
    refine Tr.seq ?_
    refine Tr.rg ?_
    refine TrL.op (ok_move rfl (fun _ => rfl)) rfl rfl ?_
    refine TrL.op (ok_move rfl (fun _ => rfl)) rfl rfl ?_
    refine TrL.op (ok_lenO rfl (fun _ => rfl)) rfl rfl ?_
    refine TrL.op (ok_lss rfl (fun _ => rfl) rfl (fun _ => rfl)) rfl rfl ?_
    refine TrL.fin ?_
    refine End.nxt ?_
    refine Tr.cnd rfl ?_ ?_
    · intro h5
      replace h5 := of_decide_eq_true h5
      have hlt : k < (bfsTo o [] s k).length := by omega
      have hxr := srch_x v (good1 hs) hlt
      have hx0 := hxr.1
      have hx1 := hxr.2
      refine Tr.skip ?_
      refine End.nxt ?_
      refine Tr.seq ?_
      refine Tr.blk ?_
      refine Tr.seq ?_
      refine Tr.draw 18 mixed (by kernel_rfl) ?_
      refine RunD.op (ok_fldO rfl (fun _ => rfl)) rfl rfl ?_
      refine RunD.op (ok_ldB rfl (fun _ => rfl) rfl) rfl rfl ?_
      refine RunD.op (ok_move rfl (fun _ => rfl)) rfl rfl ?_
      refine RunD.op (ok_move rfl (fun _ => rfl)) rfl rfl ?_
      first | refine RunD.op (ok_idxEN rfl (fun _ => rfl) rfl (fun _ => rfl) (fun _ => by omega)) rfl rfl ?_ | refine RunD.op (ok_idxE rfl (fun _ => rfl) rfl (fun _ => rfl) (fun _ => by omega)) rfl rfl ?_
      refine RunD.op (ok_ldE rfl (fun _ => rfl) rfl rfl rfl) rfl rfl ?_
      first | refine RunD.op (ok_idxN rfl (fun _ => rfl) rfl (fun _ => rfl) rfl (fun _ => by omega)) rfl rfl ?_ | refine RunD.op (ok_idxP rfl (fun _ => rfl) rfl (fun _ => rfl) rfl (fun _ => by omega)) rfl rfl ?_
      refine RunD.op (ok_ldP rfl (fun _ => rfl) rfl) rfl rfl ?_
      refine RunD.op (ok_fldO rfl (fun _ => rfl)) rfl rfl ?_
      refine RunD.op (ok_ldB rfl (fun _ => rfl) rfl) rfl rfl ?_
      refine RunD.op (ok_move rfl (fun _ => rfl)) rfl rfl ?_
      refine RunD.op (ok_move rfl (fun _ => rfl)) rfl rfl ?_
      first | refine RunD.op (ok_idxEN rfl (fun _ => rfl) rfl (fun _ => rfl) (fun _ => by omega)) rfl rfl ?_ | refine RunD.op (ok_idxE rfl (fun _ => rfl) rfl (fun _ => rfl) (fun _ => by omega)) rfl rfl ?_
      refine RunD.op (ok_ldE rfl (fun _ => rfl) rfl rfl rfl) rfl rfl ?_
      first | refine RunD.op (ok_idxN rfl (fun _ => rfl) rfl (fun _ => rfl) rfl (fun _ => by omega)) rfl rfl ?_ | refine RunD.op (ok_idxP rfl (fun _ => rfl) rfl (fun _ => rfl) rfl (fun _ => by omega)) rfl rfl ?_
      refine RunD.op (ok_ldP rfl (fun _ => rfl) rfl) rfl rfl ?_
      refine RunD.op (ok_buildL [(0, 1), (1, 1)] rfl (fun hp => .cons rfl rfl rfl <| .cons rfl rfl rfl <| .nil)) rfl rfl ?_
      refine RunD.op (ok_move rfl (fun _ => rfl)) rfl rfl ?_
      refine RunD.z ?_
      refine TrL.fin ?_
      refine End.nxt ?_
      refine Tr.for1 (σ := Nat) [⟨2, true, _, _⟩, ⟨5, true, _, _⟩, ⟨7, true, _, _⟩, ⟨42, true, _, _⟩] [⟨2, _, _⟩] (fun j => [⟨6, true, [19], kOsl 19 (srch o [] s k j).length⟩, ⟨43, true, [], kI (j : Int)⟩]) (fun j => [⟨14, [], cArr false 3 eI (numN o.1.length (srch o [] s k j)) o.1.length⟩, ⟨19, [], cArr false 3 eI (srch o [] s k j) (srch o [] s k j).length⟩]) (fun j => j ≤ 2) (fun j => j = 2) (fun j => 2 - j) (0) (by omega) (Ent.mk (.o rfl (by first | rfl | omega | (simp; done) | (simp; omega) | assumption) rfl <| .i rfl (by first | rfl | omega | (simp; done) | (simp; omega) | assumption) <| .k rfl rfl <| .k rfl rfl <| .k rfl rfl <| .k rfl rfl <| .nil) (.a (by first | rfl | omega | (simp; done) | (simp; omega) | assumption) (by first | rfl | omega | (simp; done) | (simp; omega) | assumption) <| .a (by first | rfl | omega | (simp; done) | (simp; omega) | assumption) (by first | rfl | omega | (simp; done) | (simp; omega) | assumption) <| .k rfl <| .nil) rfl) ?_ ?_
      · intro j hR1
        refine Tr.norm (S' := [⟨6, true, _, _⟩, ⟨43, true, _, _⟩, ⟨2, true, _, _⟩, ⟨5, true, _, _⟩, ⟨7, true, _, _⟩, ⟨42, true, _, _⟩]) (M' := [⟨14, _, _⟩, ⟨19, _, _⟩, ⟨2, _, _⟩]) rfl rfl ?_
        have hgl := srch_len (j := j) v (good1 hs) hlt
        have hyr := fun (hj : j < 2) => srch_y (j := j) v (good1 hs) hlt hj
        refine Tr.seq ?_
        refine Tr.rg ?_
        refine TrL.op (ok_lss rfl (fun _ => rfl) rfl (fun _ => rfl)) rfl rfl ?_
        refine TrL.fin ?_
        refine End.nxt ?_
        refine Tr.seq ?_
        refine Tr.cnd rfl ?_ ?_
        · intro h8
          replace h8 := of_decide_eq_true h8
          have hy := hyr (by omega)
          have hyY : 0 ≤ nth [nth o.1 (nth (bfsTo o [] s k) k).toNat, nth o.2 (nth (bfsTo o [] s k) k).toNat] j ∧ nth [nth o.1 (nth (bfsTo o [] s k) k).toNat, nth o.2 (nth (bfsTo o [] s k) k).toNat] j < o.1.length := hy
          have hnn := numN_new (l := srch o [] s k j) hy
          refine Tr.skip ?_
          refine End.nxt ?_
          refine Tr.seq ?_
          refine Tr.blk ?_
          refine Tr.seq ?_
          refine Tr.rg ?_
          refine TrL.op (ok_idxA eI rfl (fun _ => rfl) rfl (fun _ => rfl) rfl rfl (fun _ => ⟨by omega, by simp; omega⟩)) rfl rfl ?_
          refine TrL.op (ok_assign rfl (fun _ => rfl)) rfl rfl ?_
          refine TrL.fin ?_
          refine End.nxt ?_
          refine Tr.seq ?_
          refine Tr.rg ?_
          refine TrL.op (ok_move rfl (fun _ => rfl)) rfl rfl ?_
          refine TrL.op (ok_move rfl (fun _ => rfl)) rfl rfl ?_
          first | refine TrL.op (ok_idxEN rfl (fun _ => rfl) rfl (fun _ => rfl) (fun _ => by omega)) rfl rfl ?_ | refine TrL.op (ok_idxE rfl (fun _ => rfl) rfl (fun _ => rfl) (fun _ => by omega)) rfl rfl ?_
          refine TrL.op (ok_ldE rfl (fun _ => rfl) rfl rfl rfl) rfl rfl ?_
          refine TrL.op (ok_lss rfl (fun _ => rfl) rfl (fun _ => rfl)) rfl rfl ?_
          refine TrL.fin ?_
          refine End.nxt ?_
          refine Tr.cnd rfl ?_ ?_
          · intro h10
            replace h10 := of_decide_eq_true h10
            have hnew := hnn.1 h10
            refine Tr.seq ?_
            refine Tr.rg ?_
            refine TrL.op (ok_move rfl (fun _ => rfl)) rfl rfl ?_
            refine TrL.op (ok_move rfl (fun _ => rfl)) rfl rfl ?_
            refine TrL.op (ok_move rfl (fun _ => rfl)) rfl rfl ?_
            refine TrL.op (ok_lenO rfl (fun _ => rfl)) rfl rfl ?_
            first | refine TrL.op (ok_idxEN rfl (fun _ => rfl) rfl (fun _ => rfl) (fun _ => by omega)) rfl rfl ?_ | refine TrL.op (ok_idxE rfl (fun _ => rfl) rfl (fun _ => rfl) (fun _ => by omega)) rfl rfl ?_
            refine TrL.stE rfl rfl rfl rfl rfl ?_
            refine TrL.fin ?_
            refine End.nxt ?_
            refine Tr.rg ?_
            refine TrL.op (ok_move rfl (fun _ => rfl)) rfl rfl ?_
            refine TrL.op (ok_move rfl (fun _ => rfl)) rfl rfl ?_
            refine TrL.new (ok_bsl eI 58 (fun hp => .cons rfl <| .nil) rfl rfl rfl rfl) rfl rfl rfl rfl ?_
            refine TrL.app rfl rfl rfl rfl rfl rfl rfl rfl (by first | omega | (simp only [List.length_cons, List.length_nil]; omega)) (by first | omega | (simp only [List.length_cons, List.length_nil]; omega)) ?_
            refine TrL.norm (S' := [⟨_, _, _, _⟩, ⟨_, _, _, _⟩, ⟨_, _, _, _⟩, ⟨_, _, _, _⟩, ⟨_, _, _, _⟩, ⟨_, _, _, _⟩, ⟨_, _, _, _⟩, ⟨_, _, _, _⟩, ⟨_, _, _, _⟩, ⟨_, _, _, _⟩, ⟨_, _, _, _⟩, ⟨_, _, _, _⟩, ⟨_, _, _, _⟩, ⟨_, _, _, _⟩, ⟨_, _, _, _⟩, ⟨_, _, _, _⟩, ⟨_, _, _, _⟩, ⟨_, _, _, _⟩, ⟨_, _, _, _⟩, ⟨_, _, _, _⟩, ⟨_, _, _, _⟩, ⟨_, _, _, _⟩, ⟨_, _, _, _⟩]) rfl rfl ?_
            refine TrL.op (ok_assign rfl (fun _ => rfl)) rfl rfl ?_
            refine TrL.fin ?_
            refine End.blk ?_
            refine End.nxt ?_
            refine Tr.rg ?_
            refine TrL.op (ok_add rfl (fun _ => rfl) rfl (fun _ => rfl) (fun _ => by omega)) rfl rfl ?_
            refine TrL.op (ok_move rfl (fun _ => rfl)) rfl rfl ?_
            refine TrL.fin ?_
            exact End.lp (j + 1) (by first | rfl | omega | (simp; done) | (simp; omega) | assumption) (by omega) (Ent.mk (.o rfl (by rw [srch_new (by omega) hnew, List.length_append]; rfl) rfl <| .i rfl (by first | rfl | omega | (simp; done) | (simp; omega) | assumption) <| .k rfl rfl <| .k rfl rfl <| .k rfl rfl <| .k rfl rfl <| .nil) (.a (by rw [srch_new (by omega) hnew]; exact numN_set (x := nth (stp o (nth (bfsTo o [] s k) k)) j) hy.1 (by simpa using hnew)) (by first | rfl | omega | (simp; done) | (simp; omega) | assumption) <| .a (by rw [srch_new (by omega) hnew]; rfl) (by rw [srch_new (by omega) hnew, List.length_append]; rfl) <| .k rfl <| .nil) rfl)
          · intro h10
            replace h10 := Int.not_lt.1 (of_decide_eq_false h10)
            have hold := Classical.not_not.1 (fun hh => absurd (hnn.2 hh) (Int.not_lt.2 h10))
            refine Tr.skip ?_
            refine End.blk ?_
            refine End.nxt ?_
            refine Tr.rg ?_
            refine TrL.op (ok_add rfl (fun _ => rfl) rfl (fun _ => rfl) (fun _ => by omega)) rfl rfl ?_
            refine TrL.op (ok_move rfl (fun _ => rfl)) rfl rfl ?_
            refine TrL.fin ?_
            exact End.lp (j + 1) (by first | rfl | omega | (simp; done) | (simp; omega) | assumption) (by omega) (Ent.mk (.o rfl (by rw [srch_in (by omega) hold]) rfl <| .i rfl (by first | rfl | omega | (simp; done) | (simp; omega) | assumption) <| .k rfl rfl <| .k rfl rfl <| .k rfl rfl <| .k rfl rfl <| .nil) (.a (by rw [srch_in (by omega) hold]) (by first | rfl | omega | (simp; done) | (simp; omega) | assumption) <| .a (by rw [srch_in (by omega) hold]) (by rw [srch_in (by omega) hold]) <| .k rfl <| .nil) rfl)
        · intro h8
          replace h8 := Int.not_lt.1 (of_decide_eq_false h8)
          refine Tr.exit ?_
          refine Exs.thn ?_
          refine Exs.thn ?_
          refine Exs.here ?_
          exact End.cut (j) (by omega) (Ent.mk (.o rfl (by first | rfl | omega | (simp; done) | (simp; omega) | assumption) rfl <| .i rfl (by first | rfl | omega | (simp; done) | (simp; omega) | assumption) <| .k rfl rfl <| .k rfl rfl <| .k rfl rfl <| .k rfl rfl <| .nil) (.a (by first | rfl | omega | (simp; done) | (simp; omega) | assumption) (by first | rfl | omega | (simp; done) | (simp; omega) | assumption) <| .a (by first | rfl | omega | (simp; done) | (simp; omega) | assumption) (by first | rfl | omega | (simp; done) | (simp; omega) | assumption) <| .k rfl <| .nil) rfl)
      · rintro _ rfl
        refine End.norm (S' := [⟨6, true, _, _⟩, ⟨43, true, _, _⟩, ⟨2, true, _, _⟩, ⟨5, true, _, _⟩, ⟨7, true, _, _⟩, ⟨42, true, _, _⟩]) (M' := [⟨14, _, _⟩, ⟨19, _, _⟩, ⟨2, _, _⟩]) rfl rfl ?_
        refine End.blk ?_
        refine End.nxt ?_
        refine Tr.rg ?_
        refine TrL.op (ok_move rfl (fun _ => rfl)) rfl rfl ?_
        refine TrL.op (ok_add rfl (fun _ => rfl) rfl (fun _ => rfl) (fun _ => by omega)) rfl rfl ?_
        refine TrL.op (ok_assign rfl (fun _ => rfl)) rfl rfl ?_
        refine TrL.fin ?_
        exact End.lp (k + 1) (by first | rfl | omega | (simp; done) | (simp; omega) | assumption) (by omega) (Ent.mk (.o rfl (by rw [srch_two hlt]) rfl <| .i rfl (by first | rfl | omega | (simp; done) | (simp; omega) | assumption) <| .k rfl rfl <| .k rfl rfl <| .nil) (.a (by rw [srch_two hlt]) (by first | rfl | omega | (simp; done) | (simp; omega) | assumption) <| .a (by rw [srch_two hlt]) (by rw [srch_two hlt]) <| .k rfl <| .nil) rfl)
    · intro h5
      replace h5 := Int.not_lt.1 (of_decide_eq_false h5)
      refine Tr.exit ?_
      refine Exs.thn ?_
      refine Exs.thn ?_
      refine Exs.here ?_
      exact End.cut (k) (by omega) (Ent.mk (.o rfl (by first | rfl | omega | (simp; done) | (simp; omega) | assumption) rfl <| .i rfl (by first | rfl | omega | (simp; done) | (simp; omega) | assumption) <| .k rfl rfl <| .k rfl rfl <| .nil) (.a (by first | rfl | omega | (simp; done) | (simp; omega) | assumption) (by first | rfl | omega | (simp; done) | (simp; omega) | assumption) <| .a (by first | rfl | omega | (simp; done) | (simp; omega) | assumption) (by first | rfl | omega | (simp; done) | (simp; omega) | assumption) <| .k rfl <| .nil) rfl)
  · intro k hE0
    refine End.norm (S' := [⟨6, true, _, _⟩, ⟨7, true, _, _⟩, ⟨2, true, _, _⟩, ⟨5, true, _, _⟩]) (M' := [⟨14, _, _⟩, ⟨19, _, _⟩, ⟨2, _, _⟩]) rfl rfl ?_
    have hb := bfs_of v (good1 hs) hE0
    refine End.nxt ?_
    refine Tr.seq ?_
    refine Tr.rg ?_
    refine TrL.op (ok_move rfl (fun _ => rfl)) rfl rfl ?_
    refine TrL.op (ok_assign rfl (fun _ => rfl)) rfl rfl ?_
    refine TrL.fin ?_
    refine End.nxt ?_
    refine Tr.frz 14 [4] ⟨rfl, trivial⟩ (by simp only [lenMax]; omega) rfl ?_
    refine Tr.ret ?_
    exact Rts.res1 (fn := Try.f67) rfl (.r rfl (by rw [hb]; rfl) <| .nil)

set_option maxRecDepth 100000 in
theorem ct_renumbered (o : Ori) (f : List Int) (v : Valid o) (hfl : f.length = o.1.length) (hfr : inR f o.1.length) : Ct Try.prog 68 [kRd eO o, kRd (eL eI) f] (kRd eO (renL o f)) := by
  have hv0 := v.pos
  have hv1 := v.len
  have hv2 := v.le
  refine Ct.mk Try.func68 rfl Try.ntmps68 rfl (fun w J => ?_)
  refine Tr.seq ?_
  refine Tr.rg ?_
  refine TrL.new (ok_box 2 rfl (fun _ => rfl) rfl) rfl rfl rfl rfl ?_
  refine TrL.new (ok_alloc 4) rfl rfl rfl rfl ?_
  refine TrL.fin ?_
  refine End.nxt ?_
  refine Tr.seq ?_
  refine Tr.draw 8 mixed (by kernel_rfl) ?_
  refine RunD.op (ok_move rfl (fun _ => rfl)) rfl rfl ?_
  refine RunD.op (ok_lenJ rfl (fun _ => rfl)) rfl rfl ?_
  refine RunD.new (ok_makeN eI 10 rfl (fun _ => rfl) rfl (fun _ => rfl) rfl rfl rfl (fun _ => by omega)) rfl rfl rfl rfl ?_
  refine RunD.op (ok_move rfl (fun _ => rfl)) rfl rfl ?_
  refine RunD.op (ok_lenJ rfl (fun _ => rfl)) rfl rfl ?_
  refine RunD.new (ok_makeN eI 13 rfl (fun _ => rfl) rfl (fun _ => rfl) rfl rfl rfl (fun _ => by omega)) rfl rfl rfl rfl ?_
  refine RunD.opN2 (u := 10) (v := 13) (ok_build (fun hp => .cons rfl rfl rfl <| .cons rfl rfl rfl <| .nil)) rfl rfl rfl ?_
  refine RunD.new (ok_alloc 5) rfl rfl rfl rfl ?_
  refine RunD.z ?_
  refine TrL.stB rfl rfl rfl rfl ?_
  refine TrL.fin ?_
  refine End.nxt ?_
  refine Tr.seq ?_
  refine Tr.seq ?_
  refine Tr.rg ?_
  refine TrL.op (ok_move rfl (fun _ => rfl)) rfl rfl ?_
  refine TrL.op (ok_lenJ rfl (fun _ => rfl)) rfl rfl ?_
  refine TrL.op (ok_move rfl (fun _ => rfl)) rfl rfl ?_
  refine TrL.fin ?_
  refine End.nxt ?_
  refine Tr.for1 (σ := Nat) [⟨1, true, _, _⟩, ⟨2, true, _, _⟩, ⟨4, true, _, _⟩, ⟨5, true, _, _⟩, ⟨15, true, _, _⟩, ⟨16, true, _, _⟩] [⟨2, _, _⟩, ⟨4, _, _⟩] (fun k => [⟨17, true, [], kI (k : Int)⟩]) (fun k => [⟨10, [], cArr false 3 eI (renTo o.1 f k) f.length⟩, ⟨13, [], cArr false 3 eI (renTo o.2 f k) f.length⟩, ⟨5, [10, 13], cBlk [kOsl 10 f.length, kOsl 13 f.length]⟩]) (fun k => k ≤ f.length) (fun k => k = f.length) (fun k => f.length - k) (0) (Nat.zero_le _) (Ent.mk (.i rfl (by first | rfl | omega | (simp; done) | (simp; omega) | assumption) <| .k rfl rfl <| .k rfl rfl <| .k rfl rfl <| .k rfl rfl <| .k rfl rfl <| .k rfl rfl <| .nil) (.a renTo_zero.symm (by first | rfl | omega | (simp; done) | (simp; omega) | assumption) <| .a renTo_zero.symm (by first | rfl | omega | (simp; done) | (simp; omega) | assumption) <| .k rfl <| .k rfl <| .k rfl <| .nil) rfl) ?_ ?_
  · intro k hR0
    refine Tr.norm (S' := [⟨17, true, _, _⟩, ⟨1, true, _, _⟩, ⟨2, true, _, _⟩, ⟨4, true, _, _⟩, ⟨5, true, _, _⟩, ⟨15, true, _, _⟩, ⟨16, true, _, _⟩]) (M' := [⟨10, _, _⟩, ⟨13, _, _⟩, ⟨5, _, _⟩, ⟨2, _, _⟩, ⟨4, _, _⟩]) rfl rfl ?_
    have hl1 := renTo_len (p := o.1) (f := f) (k := k)
    have hl2 := renTo_len (p := o.2) (f := f) (k := k)
    refine Tr.seq ?_
    refine Tr.rg ?_
    refine TrL.op (ok_lss rfl (fun _ => rfl) rfl (fun _ => rfl)) rfl rfl ?_
    refine TrL.fin ?_
    refine End.nxt ?_
    refine Tr.seq ?_
    refine Tr.cnd rfl ?_ ?_
    · intro h3
      replace h3 := of_decide_eq_true h3
      refine Tr.skip ?_
      refine End.nxt ?_
      refine Tr.seq ?_
      refine Tr.blk ?_
      refine Tr.seq ?_
      refine Tr.rg ?_
      refine TrL.op (ok_move rfl (fun _ => rfl)) rfl rfl ?_
      first | refine TrL.op (ok_idxN rfl (fun _ => rfl) rfl (fun _ => rfl) rfl (fun _ => by omega)) rfl rfl ?_ | refine TrL.op (ok_idxP rfl (fun _ => rfl) rfl (fun _ => rfl) rfl (fun _ => by omega)) rfl rfl ?_
      refine TrL.op (ok_ldP rfl (fun _ => rfl) rfl) rfl rfl ?_
      refine TrL.op (ok_assign rfl (fun _ => rfl)) rfl rfl ?_
      refine TrL.op (ok_assign rfl (fun _ => rfl)) rfl rfl ?_
      refine TrL.fin ?_
      refine End.nxt ?_
      refine Tr.drawS 23 10 mixed (by kernel_rfl) ?_
      have a1 := hfr k (by omega)
      have a2 := v.ri (i := k) (by omega)
      have a3 := v.ui (i := k) (by omega)
      have a4 := hfr (nth o.1 k).toNat (by omega)
      have a5 := hfr (nth o.2 k).toNat (by omega)
      refine RunS.opA (ok_fldO rfl (fun _ => rfl)) (by kernel_rfl) rfl rfl ?_
      refine RunS.opA (ok_ldB rfl (fun _ => rfl) rfl) (by kernel_rfl) rfl rfl ?_
      refine RunS.opA (ok_move rfl (fun _ => rfl)) (by kernel_rfl) rfl rfl ?_
      refine RunS.op (ok_fldO rfl (fun _ => rfl)) rfl rfl ?_
      refine RunS.op (ok_ldB rfl (fun _ => rfl) rfl) rfl rfl ?_
      refine RunS.op (ok_move rfl (fun _ => rfl)) rfl rfl ?_
      refine RunS.opA (ok_move rfl (fun _ => rfl)) (by kernel_rfl) rfl rfl ?_
      refine RunS.opA (ok_fldO rfl (fun _ => rfl)) (by kernel_rfl) rfl rfl ?_
      refine RunS.opA (ok_ldB rfl (fun _ => rfl) rfl) (by kernel_rfl) rfl rfl ?_
      refine RunS.opA (ok_move rfl (fun _ => rfl)) (by kernel_rfl) rfl rfl ?_
      first | refine RunS.opA (ok_idxN rfl (fun _ => rfl) rfl (fun _ => rfl) rfl (fun _ => by omega)) (by kernel_rfl) rfl rfl ?_ | refine RunS.opA (ok_idxP rfl (fun _ => rfl) rfl (fun _ => rfl) rfl (fun _ => by omega)) (by kernel_rfl) rfl rfl ?_
      refine RunS.opA (ok_ldP rfl (fun _ => rfl) rfl) (by kernel_rfl) rfl rfl ?_
      first | refine RunS.opA (ok_idxN rfl (fun _ => rfl) rfl (fun _ => rfl) rfl (fun _ => by omega)) (by kernel_rfl) rfl rfl ?_ | refine RunS.opA (ok_idxP rfl (fun _ => rfl) rfl (fun _ => rfl) rfl (fun _ => by omega)) (by kernel_rfl) rfl rfl ?_
      refine RunS.opA (ok_ldP rfl (fun _ => rfl) rfl) (by kernel_rfl) rfl rfl ?_
      refine RunS.opA (ok_move rfl (fun _ => rfl)) (by kernel_rfl) rfl rfl ?_
      refine RunS.opA (ok_fldO rfl (fun _ => rfl)) (by kernel_rfl) rfl rfl ?_
      refine RunS.opA (ok_ldB rfl (fun _ => rfl) rfl) (by kernel_rfl) rfl rfl ?_
      refine RunS.opA (ok_move rfl (fun _ => rfl)) (by kernel_rfl) rfl rfl ?_
      first | refine RunS.opA (ok_idxN rfl (fun _ => rfl) rfl (fun _ => rfl) rfl (fun _ => by omega)) (by kernel_rfl) rfl rfl ?_ | refine RunS.opA (ok_idxP rfl (fun _ => rfl) rfl (fun _ => rfl) rfl (fun _ => by omega)) (by kernel_rfl) rfl rfl ?_
      refine RunS.opA (ok_ldP rfl (fun _ => rfl) rfl) (by kernel_rfl) rfl rfl ?_
      first | refine RunS.opA (ok_idxN rfl (fun _ => rfl) rfl (fun _ => rfl) rfl (fun _ => by omega)) (by kernel_rfl) rfl rfl ?_ | refine RunS.opA (ok_idxP rfl (fun _ => rfl) rfl (fun _ => rfl) rfl (fun _ => by omega)) (by kernel_rfl) rfl rfl ?_
      refine RunS.opA (ok_ldP rfl (fun _ => rfl) rfl) (by kernel_rfl) rfl rfl ?_
      first | refine RunS.opA (ok_idxEN rfl (fun _ => rfl) rfl (fun _ => rfl) (fun _ => by omega)) (by kernel_rfl) rfl rfl ?_ | refine RunS.opA (ok_idxE rfl (fun _ => rfl) rfl (fun _ => rfl) (fun _ => by omega)) (by kernel_rfl) rfl rfl ?_
      refine RunS.z (st_E rfl rfl rfl rfl rfl) rfl rfl rfl ?_
      first | refine TrL.op (ok_idxEN rfl (fun _ => rfl) rfl (fun _ => rfl) (fun _ => by omega)) rfl rfl ?_ | refine TrL.op (ok_idxE rfl (fun _ => rfl) rfl (fun _ => rfl) (fun _ => by omega)) rfl rfl ?_
      refine TrL.stE rfl rfl rfl rfl rfl ?_
      refine TrL.fin ?_
      refine End.blk ?_
      refine End.nxt ?_
      refine Tr.rg ?_
      refine TrL.op (ok_add rfl (fun _ => rfl) rfl (fun _ => rfl) (fun _ => by omega)) rfl rfl ?_
      refine TrL.op (ok_move rfl (fun _ => rfl)) rfl rfl ?_
      refine TrL.fin ?_
      exact End.lp (k + 1) (by first | rfl | omega | (simp; done) | (simp; omega) | assumption) (by omega) (Ent.mk (.i rfl (by first | rfl | omega | (simp; done) | (simp; omega) | assumption) <| .k rfl rfl <| .k rfl rfl <| .k rfl rfl <| .k rfl rfl <| .k rfl rfl <| .k rfl rfl <| .nil) (.a renTo_succ.symm (by first | rfl | omega | (simp; done) | (simp; omega) | assumption) <| .a renTo_succ.symm (by first | rfl | omega | (simp; done) | (simp; omega) | assumption) <| .k rfl <| .k rfl <| .k rfl <| .nil) rfl)
    · intro h3
      replace h3 := Int.not_lt.1 (of_decide_eq_false h3)
      refine Tr.exit ?_
      refine Exs.thn ?_
      refine Exs.thn ?_
      refine Exs.here ?_
      exact End.cut (k) (by omega) (Ent.mk (.i rfl (by first | rfl | omega | (simp; done) | (simp; omega) | assumption) <| .k rfl rfl <| .k rfl rfl <| .k rfl rfl <| .k rfl rfl <| .k rfl rfl <| .k rfl rfl <| .nil) (.a (by first | rfl | omega | (simp; done) | (simp; omega) | assumption) (by first | rfl | omega | (simp; done) | (simp; omega) | assumption) <| .a (by first | rfl | omega | (simp; done) | (simp; omega) | assumption) (by first | rfl | omega | (simp; done) | (simp; omega) | assumption) <| .k rfl <| .k rfl <| .k rfl <| .nil) rfl)
  · rintro _ rfl
    refine End.norm (S' := [⟨17, true, _, _⟩, ⟨1, true, _, _⟩, ⟨2, true, _, _⟩, ⟨4, true, _, _⟩, ⟨5, true, _, _⟩, ⟨15, true, _, _⟩, ⟨16, true, _, _⟩]) (M' := [⟨10, _, _⟩, ⟨13, _, _⟩, ⟨5, _, _⟩, ⟨2, _, _⟩, ⟨4, _, _⟩]) rfl rfl ?_
    refine End.nxt ?_
    refine Tr.seq ?_
    refine Tr.rg ?_
    refine TrL.op (ok_ldBS rfl (fun _ => rfl)) rfl rfl ?_
    refine TrL.stB rfl rfl rfl rfl ?_
    refine TrL.fin ?_
    refine End.nxt ?_
    refine Tr.ent (S' := [⟨4, true, _, _⟩]) (M' := [⟨4, _, _⟩, ⟨10, _, _⟩, ⟨13, _, _⟩]) (Ent.mk (.k rfl rfl <| .nil) (.k rfl <| .k rfl <| .k rfl <| .nil) rfl) ?_
    refine Tr.frzC 10 4 (by simp only [lenMax]; omega) rfl rfl ?_
    refine Tr.frzC 13 4 (by simp only [lenMax]; omega) rfl rfl ?_
    refine Tr.ret ?_
    exact Rts.resC1 (fn := Try.f68) rfl rfl (aggRd rfl (by rfl))

set_option maxRecDepth 100000 in
theorem ct_components (o : Ori) (v : Valid o) : Ct Try.prog 84 [kRd eO o] (kRd (eL (eL eI)) (comps o o.1.length)) := by
  have hv0 := v.pos
  have hv1 := v.len
  have hv2 := v.le
  refine Ct.mk Try.func84 rfl Try.ntmps84 rfl (fun w J => ?_)
  refine Tr.seq ?_
  refine Tr.rg ?_
  refine TrL.new (ok_box 1 rfl (fun _ => rfl) rfl) rfl rfl rfl rfl ?_
  refine TrL.op (ok_assign rfl (fun _ => rfl)) rfl rfl ?_
  refine TrL.fin ?_
  refine End.nxt ?_
  refine Tr.seq ?_
  refine Tr.rg ?_
  refine TrL.op (ok_fldO rfl (fun _ => rfl)) rfl rfl ?_
  refine TrL.op (ok_ldB rfl (fun _ => rfl) rfl) rfl rfl ?_
  refine TrL.op (ok_lenJ rfl (fun _ => rfl)) rfl rfl ?_
  refine TrL.new (ok_makeN eBool 13 rfl (fun _ => rfl) rfl (fun _ => rfl) rfl rfl rfl (fun _ => by omega)) rfl rfl rfl rfl ?_
  refine TrL.op (ok_assign rfl (fun _ => rfl)) rfl rfl ?_
  refine TrL.fin ?_
  refine End.nxt ?_
  refine Tr.seq ?_
  refine Tr.rg ?_
  refine TrL.op (ok_assign rfl (fun _ => rfl)) rfl rfl ?_
  refine TrL.fin ?_
  refine End.nxt ?_
  refine Tr.seq ?_
  refine Tr.seq ?_
  refine Tr.rg ?_
  refine TrL.op (ok_fldO rfl (fun _ => rfl)) rfl rfl ?_
  refine TrL.op (ok_ldB rfl (fun _ => rfl) rfl) rfl rfl ?_
  refine TrL.op (ok_lenJ rfl (fun _ => rfl)) rfl rfl ?_
  refine TrL.op (ok_move rfl (fun _ => rfl)) rfl rfl ?_
  refine TrL.fin ?_
  refine End.nxt ?_
  refine Tr.grow (s := 4) rfl rfl 4 rfl 22 (eL eI) rfl ?_
  refine Tr.for1 (σ := Nat) [⟨1, true, _, _⟩, ⟨3, true, _, _⟩, ⟨16, true, _, _⟩] [⟨1, _, _⟩] (fun k => [⟨4, true, [4], kOsl 4 (comps o k).length⟩, ⟨17, true, [], kI (k : Int)⟩]) (fun k => [⟨4, [], cArr true 22 (eL eI) (comps o k) (comps o k).length⟩, ⟨13, [], cArr false 4 eBool (seenB o.1.length (comps o k).flatten) o.1.length⟩]) (fun k => k ≤ o.1.length) (fun k => k = o.1.length) (fun k => o.1.length - k) (0) (Nat.zero_le _) (Ent.mk (.o rfl (by first | rfl | omega | (simp; done) | (simp; omega) | assumption) rfl <| .i rfl (by first | rfl | omega | (simp; done) | (simp; omega) | assumption) <| .k rfl rfl <| .k rfl rfl <| .k rfl rfl <| .nil) (.a (by first | rfl | omega | (simp; done) | (simp; omega) | assumption) (by first | rfl | omega | (simp; done) | (simp; omega) | assumption) <| .a seenB_nil (by first | rfl | omega | (simp; done) | (simp; omega) | assumption) <| .k rfl <| .nil) rfl) ?_ ?_
  · intro k hR0
    refine Tr.norm (S' := [⟨4, true, _, _⟩, ⟨17, true, _, _⟩, ⟨1, true, _, _⟩, ⟨3, true, _, _⟩, ⟨16, true, _, _⟩]) (M' := [⟨4, _, _⟩, ⟨13, _, _⟩, ⟨1, _, _⟩]) rfl rfl ?_
    have hcl := comps_len (o := o) (k := k)
    refine Tr.seq ?_
    refine Tr.rg ?_
    refine TrL.op (ok_lss rfl (fun _ => rfl) rfl (fun _ => rfl)) rfl rfl ?_
    refine TrL.fin ?_
    refine End.nxt ?_
    refine Tr.seq ?_
    refine Tr.cnd rfl ?_ ?_
    · intro h4
      replace h4 := of_decide_eq_true h4
      have hk : k < o.1.length := by omega
      have hsx := nth_seenB (S := (comps o k).flatten) hk
      refine Tr.skip ?_
      refine End.nxt ?_
      refine Tr.seq ?_
      refine Tr.blk ?_
      refine Tr.seq ?_
      refine Tr.rg ?_
      refine TrL.op (ok_move rfl (fun _ => rfl)) rfl rfl ?_
      refine TrL.op (ok_assign rfl (fun _ => rfl)) rfl rfl ?_
      refine TrL.fin ?_
      refine End.nxt ?_
      refine Tr.seq ?_
      refine Tr.seq ?_
      refine Tr.rg ?_
      refine TrL.op (ok_move rfl (fun _ => rfl)) rfl rfl ?_
      refine TrL.op (ok_move rfl (fun _ => rfl)) rfl rfl ?_
      first | refine TrL.op (ok_idxEN rfl (fun _ => rfl) rfl (fun _ => rfl) (fun _ => by omega)) rfl rfl ?_ | refine TrL.op (ok_idxE rfl (fun _ => rfl) rfl (fun _ => rfl) (fun _ => by omega)) rfl rfl ?_
      refine TrL.op (ok_ldE rfl (fun _ => rfl) rfl rfl rfl) rfl rfl ?_
      refine TrL.fin ?_
      refine End.nxt ?_
      refine Tr.cnd rfl ?_ ?_
      · intro h6
        rw [hsx] at h6
        have hm := of_decide_eq_true h6
        refine Tr.exit ?_
        refine Exs.thn ?_
        refine Exs.here ?_
        refine End.nxt ?_
        refine Tr.rg ?_
        refine TrL.op (ok_add rfl (fun _ => rfl) rfl (fun _ => rfl) (fun _ => by omega)) rfl rfl ?_
        refine TrL.op (ok_move rfl (fun _ => rfl)) rfl rfl ?_
        refine TrL.fin ?_
        exact End.lp (k + 1) (by first | rfl | omega | (simp; done) | (simp; omega) | assumption) (by omega) (Ent.mk (.o rfl (by rw [comps_in hm]) rfl <| .i rfl (by first | rfl | omega | (simp; done) | (simp; omega) | assumption) <| .k rfl rfl <| .k rfl rfl <| .k rfl rfl <| .nil) (.a (by rw [comps_in hm]) (by rw [comps_in hm]) <| .a (by rw [comps_in hm]) (by first | rfl | omega | (simp; done) | (simp; omega) | assumption) <| .k rfl <| .nil) rfl)
      · intro h6
        rw [hsx] at h6
        have hm := of_decide_eq_false h6
        refine Tr.skip ?_
        refine End.nxt ?_
        refine Tr.seq ?_
        refine Tr.rg ?_
        refine TrL.op (ok_move rfl (fun _ => rfl)) rfl rfl ?_
        refine TrL.op (ok_move rfl (fun _ => rfl)) rfl rfl ?_
        first | refine TrL.op (ok_idxEN rfl (fun _ => rfl) rfl (fun _ => rfl) (fun _ => by omega)) rfl rfl ?_ | refine TrL.op (ok_idxE rfl (fun _ => rfl) rfl (fun _ => rfl) (fun _ => by omega)) rfl rfl ?_
        refine TrL.stE rfl rfl rfl rfl rfl ?_
        refine TrL.fin ?_
        refine End.nxt ?_
        refine Tr.seq ?_
        refine Tr.rg ?_
        refine TrL.op (ok_move rfl (fun _ => rfl)) rfl rfl ?_
        refine TrL.new (ok_bsl eI 28 (fun hp => .cons rfl <| .nil) rfl rfl rfl rfl) rfl rfl rfl rfl ?_
        refine TrL.op (ok_assign rfl (fun _ => rfl)) rfl rfl ?_
        refine TrL.fin ?_
        refine End.nxt ?_
        refine Tr.seq ?_
        refine Tr.seq ?_
        refine Tr.rg ?_
        refine TrL.op (ok_assign rfl (fun _ => rfl)) rfl rfl ?_
        refine TrL.fin ?_
        refine End.nxt ?_
        refine Tr.for1 (σ := Nat) [⟨1, true, _, _⟩, ⟨3, true, _, _⟩, ⟨4, true, _, _⟩, ⟨16, true, _, _⟩, ⟨17, true, _, _⟩] [⟨1, _, _⟩, ⟨4, _, _⟩] (fun m => [⟨6, true, [28], kOsl 28 (bfsTo o (comps o k).flatten k m).length⟩, ⟨7, true, [], kI (m : Int)⟩]) (fun m => [⟨13, [], cArr false 4 eBool (seenB o.1.length ((comps o k).flatten ++ (bfsTo o (comps o k).flatten k m))) o.1.length⟩, ⟨28, [], cArr false 3 eI (bfsTo o (comps o k).flatten k m) (bfsTo o (comps o k).flatten k m).length⟩]) (fun m => m ≤ o.1.length) (fun m => (bfsTo o (comps o k).flatten k m).length ≤ m) (fun m => o.1.length - m) (0) (Nat.zero_le _) (Ent.mk (.o rfl (by first | rfl | omega | (simp; done) | (simp; omega) | assumption) rfl <| .i rfl (by first | rfl | omega | (simp; done) | (simp; omega) | assumption) <| .k rfl rfl <| .k rfl rfl <| .k rfl rfl <| .k rfl rfl <| .k rfl rfl <| .nil) (.a (seenB_set (by omega)) (by first | rfl | omega | (simp; done) | (simp; omega) | assumption) <| .a (by first | rfl | omega | (simp; done) | (simp; omega) | assumption) (by first | rfl | omega | (simp; done) | (simp; omega) | assumption) <| .k rfl <| .k rfl <| .nil) rfl) ?_ ?_
        · intro m hR1
          refine Tr.norm (S' := [⟨6, true, _, _⟩, ⟨7, true, _, _⟩, ⟨1, true, _, _⟩, ⟨3, true, _, _⟩, ⟨4, true, _, _⟩, ⟨16, true, _, _⟩, ⟨17, true, _, _⟩]) (M' := [⟨13, _, _⟩, ⟨28, _, _⟩, ⟨1, _, _⟩, ⟨4, _, _⟩]) rfl rfl ?_
          have hlen := bfsTo_len v (comps_start v (by omega) hm) m
          refine Tr.seq ?_
          refine Tr.seq ?_
          refine Tr.rg ?_
          refine TrL.op (ok_move rfl (fun _ => rfl)) rfl rfl ?_
          refine TrL.op (ok_move rfl (fun _ => rfl)) rfl rfl ?_
          refine TrL.op (ok_lenO rfl (fun _ => rfl)) rfl rfl ?_
          refine TrL.op (ok_lss rfl (fun _ => rfl) rfl (fun _ => rfl)) rfl rfl ?_
          refine TrL.fin ?_
          refine End.nxt ?_
          refine Tr.cnd rfl ?_ ?_
          · intro h10
            replace h10 := of_decide_eq_true h10
            have hlt : m < (bfsTo o (comps o k).flatten k m).length := by omega
            have hxr := srch_x v (comps_start v hk hm) hlt
            have hx0 := hxr.1
            have hx1 := hxr.2
            refine Tr.skip ?_
            refine End.nxt ?_
            refine Tr.seq ?_
            refine Tr.blk ?_
            refine Tr.seq ?_
            refine Tr.draw 18 mixed (by kernel_rfl) ?_
            refine RunD.op (ok_fldO rfl (fun _ => rfl)) rfl rfl ?_
            refine RunD.op (ok_ldB rfl (fun _ => rfl) rfl) rfl rfl ?_
            refine RunD.op (ok_move rfl (fun _ => rfl)) rfl rfl ?_
            refine RunD.op (ok_move rfl (fun _ => rfl)) rfl rfl ?_
            first | refine RunD.op (ok_idxEN rfl (fun _ => rfl) rfl (fun _ => rfl) (fun _ => by omega)) rfl rfl ?_ | refine RunD.op (ok_idxE rfl (fun _ => rfl) rfl (fun _ => rfl) (fun _ => by omega)) rfl rfl ?_
            refine RunD.op (ok_ldE rfl (fun _ => rfl) rfl rfl rfl) rfl rfl ?_
            first | refine RunD.op (ok_idxN rfl (fun _ => rfl) rfl (fun _ => rfl) rfl (fun _ => by omega)) rfl rfl ?_ | refine RunD.op (ok_idxP rfl (fun _ => rfl) rfl (fun _ => rfl) rfl (fun _ => by omega)) rfl rfl ?_
            refine RunD.op (ok_ldP rfl (fun _ => rfl) rfl) rfl rfl ?_
            refine RunD.op (ok_fldO rfl (fun _ => rfl)) rfl rfl ?_
            refine RunD.op (ok_ldB rfl (fun _ => rfl) rfl) rfl rfl ?_
            refine RunD.op (ok_move rfl (fun _ => rfl)) rfl rfl ?_
            refine RunD.op (ok_move rfl (fun _ => rfl)) rfl rfl ?_
            first | refine RunD.op (ok_idxEN rfl (fun _ => rfl) rfl (fun _ => rfl) (fun _ => by omega)) rfl rfl ?_ | refine RunD.op (ok_idxE rfl (fun _ => rfl) rfl (fun _ => rfl) (fun _ => by omega)) rfl rfl ?_
            refine RunD.op (ok_ldE rfl (fun _ => rfl) rfl rfl rfl) rfl rfl ?_
            first | refine RunD.op (ok_idxN rfl (fun _ => rfl) rfl (fun _ => rfl) rfl (fun _ => by omega)) rfl rfl ?_ | refine RunD.op (ok_idxP rfl (fun _ => rfl) rfl (fun _ => rfl) rfl (fun _ => by omega)) rfl rfl ?_
            refine RunD.op (ok_ldP rfl (fun _ => rfl) rfl) rfl rfl ?_
            refine RunD.op (ok_buildL [(0, 1), (1, 1)] rfl (fun hp => .cons rfl rfl rfl <| .cons rfl rfl rfl <| .nil)) rfl rfl ?_
            refine RunD.op (ok_move rfl (fun _ => rfl)) rfl rfl ?_
            refine RunD.z ?_
            refine TrL.fin ?_
            refine End.nxt ?_
            refine Tr.for1 (σ := Nat) [⟨1, true, _, _⟩, ⟨3, true, _, _⟩, ⟨4, true, _, _⟩, ⟨7, true, _, _⟩, ⟨16, true, _, _⟩, ⟨17, true, _, _⟩, ⟨51, true, _, _⟩] [⟨1, _, _⟩, ⟨4, _, _⟩] (fun j => [⟨6, true, [28], kOsl 28 (srch o (comps o k).flatten k m j).length⟩, ⟨52, true, [], kI (j : Int)⟩]) (fun j => [⟨13, [], cArr false 4 eBool (seenB o.1.length ((comps o k).flatten ++ (srch o (comps o k).flatten k m j))) o.1.length⟩, ⟨28, [], cArr false 3 eI (srch o (comps o k).flatten k m j) (srch o (comps o k).flatten k m j).length⟩]) (fun j => j ≤ 2) (fun j => j = 2) (fun j => 2 - j) (0) (by omega) (Ent.mk (.o rfl (by first | rfl | omega | (simp; done) | (simp; omega) | assumption) rfl <| .i rfl (by first | rfl | omega | (simp; done) | (simp; omega) | assumption) <| .k rfl rfl <| .k rfl rfl <| .k rfl rfl <| .k rfl rfl <| .k rfl rfl <| .k rfl rfl <| .k rfl rfl <| .nil) (.a (by first | rfl | omega | (simp; done) | (simp; omega) | assumption) (by first | rfl | omega | (simp; done) | (simp; omega) | assumption) <| .a (by first | rfl | omega | (simp; done) | (simp; omega) | assumption) (by first | rfl | omega | (simp; done) | (simp; omega) | assumption) <| .k rfl <| .k rfl <| .nil) rfl) ?_ ?_
            · intro j hR2
              refine Tr.norm (S' := [⟨6, true, _, _⟩, ⟨52, true, _, _⟩, ⟨1, true, _, _⟩, ⟨3, true, _, _⟩, ⟨4, true, _, _⟩, ⟨7, true, _, _⟩, ⟨16, true, _, _⟩, ⟨17, true, _, _⟩, ⟨51, true, _, _⟩]) (M' := [⟨13, _, _⟩, ⟨28, _, _⟩, ⟨1, _, _⟩, ⟨4, _, _⟩]) rfl rfl ?_
              have hgl := srch_len (j := j) v (comps_start v (by omega) hm) hlt
              have hyr := fun (hj : j < 2) => srch_y (j := j) v (comps_start v (by omega) hm) hlt hj
              refine Tr.seq ?_
              refine Tr.rg ?_
              refine TrL.op (ok_lss rfl (fun _ => rfl) rfl (fun _ => rfl)) rfl rfl ?_
              refine TrL.fin ?_
              refine End.nxt ?_
              refine Tr.seq ?_
              refine Tr.cnd rfl ?_ ?_
              · intro h13
                replace h13 := of_decide_eq_true h13
                have hy := hyr (by omega)
                have hyY : 0 ≤ nth [nth o.1 (nth (bfsTo o (comps o k).flatten k m) m).toNat, nth o.2 (nth (bfsTo o (comps o k).flatten k m) m).toNat] j ∧ nth [nth o.1 (nth (bfsTo o (comps o k).flatten k m) m).toNat, nth o.2 (nth (bfsTo o (comps o k).flatten k m) m).toNat] j < o.1.length := hy
                have hnn := nth_seenB' (S := (comps o k).flatten ++ srch o (comps o k).flatten k m j) hy.1 hy.2
                have hnn2 : nth (seenB o.1.length ((comps o k).flatten ++ srch o (comps o k).flatten k m j)) (nth [nth o.1 (nth (bfsTo o (comps o k).flatten k m) m).toNat, nth o.2 (nth (bfsTo o (comps o k).flatten k m) m).toNat] j).toNat = _ := hnn
                refine Tr.skip ?_
                refine End.nxt ?_
                refine Tr.seq ?_
                refine Tr.blk ?_
                refine Tr.seq ?_
                refine Tr.rg ?_
                refine TrL.op (ok_idxA eI rfl (fun _ => rfl) rfl (fun _ => rfl) rfl rfl (fun _ => ⟨by omega, by simp; omega⟩)) rfl rfl ?_
                refine TrL.op (ok_assign rfl (fun _ => rfl)) rfl rfl ?_
                refine TrL.fin ?_
                refine End.nxt ?_
                refine Tr.seq ?_
                refine Tr.rg ?_
                refine TrL.op (ok_move rfl (fun _ => rfl)) rfl rfl ?_
                refine TrL.op (ok_move rfl (fun _ => rfl)) rfl rfl ?_
                first | refine TrL.op (ok_idxEN rfl (fun _ => rfl) rfl (fun _ => rfl) (fun _ => by omega)) rfl rfl ?_ | refine TrL.op (ok_idxE rfl (fun _ => rfl) rfl (fun _ => rfl) (fun _ => by omega)) rfl rfl ?_
                refine TrL.op (ok_ldE rfl (fun _ => rfl) rfl rfl rfl) rfl rfl ?_
                refine TrL.op (ok_not rfl (fun _ => rfl)) rfl rfl ?_
                refine TrL.fin ?_
                refine End.nxt ?_
                refine Tr.cnd rfl ?_ ?_
                · intro h15
                  rw [hnn2] at h15
                  rw [Bool.not_eq_true'] at h15
                  have hnew := of_decide_eq_false h15
                  refine Tr.seq ?_
                  refine Tr.rg ?_
                  refine TrL.op (ok_move rfl (fun _ => rfl)) rfl rfl ?_
                  refine TrL.op (ok_move rfl (fun _ => rfl)) rfl rfl ?_
                  first | refine TrL.op (ok_idxEN rfl (fun _ => rfl) rfl (fun _ => rfl) (fun _ => by omega)) rfl rfl ?_ | refine TrL.op (ok_idxE rfl (fun _ => rfl) rfl (fun _ => rfl) (fun _ => by omega)) rfl rfl ?_
                  refine TrL.stE rfl rfl rfl rfl rfl ?_
                  refine TrL.fin ?_
                  refine End.nxt ?_
                  refine Tr.rg ?_
                  refine TrL.op (ok_move rfl (fun _ => rfl)) rfl rfl ?_
                  refine TrL.op (ok_move rfl (fun _ => rfl)) rfl rfl ?_
                  refine TrL.new (ok_bsl eI 65 (fun hp => .cons rfl <| .nil) rfl rfl rfl rfl) rfl rfl rfl rfl ?_
                  refine TrL.app rfl rfl rfl rfl rfl rfl rfl rfl (by first | omega | (simp only [List.length_cons, List.length_nil]; omega)) (by first | omega | (simp only [List.length_cons, List.length_nil]; omega)) ?_
                  refine TrL.norm (S' := [⟨_, _, _, _⟩, ⟨_, _, _, _⟩, ⟨_, _, _, _⟩, ⟨_, _, _, _⟩, ⟨_, _, _, _⟩, ⟨_, _, _, _⟩, ⟨_, _, _, _⟩, ⟨_, _, _, _⟩, ⟨_, _, _, _⟩, ⟨_, _, _, _⟩, ⟨_, _, _, _⟩, ⟨_, _, _, _⟩, ⟨_, _, _, _⟩, ⟨_, _, _, _⟩, ⟨_, _, _, _⟩, ⟨_, _, _, _⟩, ⟨_, _, _, _⟩, ⟨_, _, _, _⟩, ⟨_, _, _, _⟩, ⟨_, _, _, _⟩, ⟨_, _, _, _⟩, ⟨_, _, _, _⟩, ⟨_, _, _, _⟩, ⟨_, _, _, _⟩]) rfl rfl ?_
                  refine TrL.op (ok_assign rfl (fun _ => rfl)) rfl rfl ?_
                  refine TrL.fin ?_
                  refine End.blk ?_
                  refine End.nxt ?_
                  refine Tr.rg ?_
                  refine TrL.op (ok_add rfl (fun _ => rfl) rfl (fun _ => rfl) (fun _ => by omega)) rfl rfl ?_
                  refine TrL.op (ok_move rfl (fun _ => rfl)) rfl rfl ?_
                  refine TrL.fin ?_
                  exact End.lp (j + 1) (by first | rfl | omega | (simp; done) | (simp; omega) | assumption) (by omega) (Ent.mk (.o rfl (by rw [srch_new (by omega) hnew, List.length_append]; rfl) rfl <| .i rfl (by first | rfl | omega | (simp; done) | (simp; omega) | assumption) <| .k rfl rfl <| .k rfl rfl <| .k rfl rfl <| .k rfl rfl <| .k rfl rfl <| .k rfl rfl <| .k rfl rfl <| .nil) (.a (by rw [srch_new (by omega) hnew, ← List.append_assoc]; exact seenB_set (x := nth (stp o (nth (bfsTo o (comps o k).flatten k m) m)) j) hy.1) (by first | rfl | omega | (simp; done) | (simp; omega) | assumption) <| .a (by rw [srch_new (by omega) hnew]; rfl) (by rw [srch_new (by omega) hnew, List.length_append]; rfl) <| .k rfl <| .k rfl <| .nil) rfl)
                · intro h15
                  rw [hnn2] at h15
                  rw [Bool.not_eq_false'] at h15
                  have hold := of_decide_eq_true h15
                  refine Tr.skip ?_
                  refine End.blk ?_
                  refine End.nxt ?_
                  refine Tr.rg ?_
                  refine TrL.op (ok_add rfl (fun _ => rfl) rfl (fun _ => rfl) (fun _ => by omega)) rfl rfl ?_
                  refine TrL.op (ok_move rfl (fun _ => rfl)) rfl rfl ?_
                  refine TrL.fin ?_
                  exact End.lp (j + 1) (by first | rfl | omega | (simp; done) | (simp; omega) | assumption) (by omega) (Ent.mk (.o rfl (by rw [srch_in (by omega) hold]) rfl <| .i rfl (by first | rfl | omega | (simp; done) | (simp; omega) | assumption) <| .k rfl rfl <| .k rfl rfl <| .k rfl rfl <| .k rfl rfl <| .k rfl rfl <| .k rfl rfl <| .k rfl rfl <| .nil) (.a (by rw [srch_in (by omega) hold]) (by first | rfl | omega | (simp; done) | (simp; omega) | assumption) <| .a (by rw [srch_in (by omega) hold]) (by rw [srch_in (by omega) hold]) <| .k rfl <| .k rfl <| .nil) rfl)
              · intro h13
                replace h13 := Int.not_lt.1 (of_decide_eq_false h13)
                refine Tr.exit ?_
                refine Exs.thn ?_
                refine Exs.thn ?_
                refine Exs.here ?_
                exact End.cut (j) (by omega) (Ent.mk (.o rfl (by first | rfl | omega | (simp; done) | (simp; omega) | assumption) rfl <| .i rfl (by first | rfl | omega | (simp; done) | (simp; omega) | assumption) <| .k rfl rfl <| .k rfl rfl <| .k rfl rfl <| .k rfl rfl <| .k rfl rfl <| .k rfl rfl <| .k rfl rfl <| .nil) (.a (by first | rfl | omega | (simp; done) | (simp; omega) | assumption) (by first | rfl | omega | (simp; done) | (simp; omega) | assumption) <| .a (by first | rfl | omega | (simp; done) | (simp; omega) | assumption) (by first | rfl | omega | (simp; done) | (simp; omega) | assumption) <| .k rfl <| .k rfl <| .nil) rfl)
            · rintro _ rfl
              refine End.norm (S' := [⟨6, true, _, _⟩, ⟨52, true, _, _⟩, ⟨1, true, _, _⟩, ⟨3, true, _, _⟩, ⟨4, true, _, _⟩, ⟨7, true, _, _⟩, ⟨16, true, _, _⟩, ⟨17, true, _, _⟩, ⟨51, true, _, _⟩]) (M' := [⟨13, _, _⟩, ⟨28, _, _⟩, ⟨1, _, _⟩, ⟨4, _, _⟩]) rfl rfl ?_
              refine End.blk ?_
              refine End.nxt ?_
              refine Tr.rg ?_
              refine TrL.op (ok_move rfl (fun _ => rfl)) rfl rfl ?_
              refine TrL.op (ok_add rfl (fun _ => rfl) rfl (fun _ => rfl) (fun _ => by omega)) rfl rfl ?_
              refine TrL.op (ok_assign rfl (fun _ => rfl)) rfl rfl ?_
              refine TrL.fin ?_
              exact End.lp (m + 1) (by first | rfl | omega | (simp; done) | (simp; omega) | assumption) (by omega) (Ent.mk (.o rfl (by rw [srch_two hlt]) rfl <| .i rfl (by first | rfl | omega | (simp; done) | (simp; omega) | assumption) <| .k rfl rfl <| .k rfl rfl <| .k rfl rfl <| .k rfl rfl <| .k rfl rfl <| .nil) (.a (by rw [srch_two hlt]) (by first | rfl | omega | (simp; done) | (simp; omega) | assumption) <| .a (by rw [srch_two hlt]) (by rw [srch_two hlt]) <| .k rfl <| .k rfl <| .nil) rfl)
          · intro h10
            replace h10 := Int.not_lt.1 (of_decide_eq_false h10)
            refine Tr.exit ?_
            refine Exs.thn ?_
            refine Exs.thn ?_
            refine Exs.here ?_
            exact End.cut (m) (by omega) (Ent.mk (.o rfl (by first | rfl | omega | (simp; done) | (simp; omega) | assumption) rfl <| .i rfl (by first | rfl | omega | (simp; done) | (simp; omega) | assumption) <| .k rfl rfl <| .k rfl rfl <| .k rfl rfl <| .k rfl rfl <| .k rfl rfl <| .nil) (.a (by first | rfl | omega | (simp; done) | (simp; omega) | assumption) (by first | rfl | omega | (simp; done) | (simp; omega) | assumption) <| .a (by first | rfl | omega | (simp; done) | (simp; omega) | assumption) (by first | rfl | omega | (simp; done) | (simp; omega) | assumption) <| .k rfl <| .k rfl <| .nil) rfl)
        · intro m hE1
          refine End.norm (S' := [⟨6, true, _, _⟩, ⟨7, true, _, _⟩, ⟨1, true, _, _⟩, ⟨3, true, _, _⟩, ⟨4, true, _, _⟩, ⟨16, true, _, _⟩, ⟨17, true, _, _⟩]) (M' := [⟨13, _, _⟩, ⟨28, _, _⟩, ⟨1, _, _⟩, ⟨4, _, _⟩]) rfl rfl ?_
          have hb := (bfs_of v (comps_start v hk hm) hE1).trans (comps_bfs v hk hm)
          have hlb := bfsTo_len v (comps_start v hk hm) m
          have hpb := bfsTo_pos (o := o) (F := (comps o k).flatten) (s := k) (k := m)
          refine End.nxt ?_
          refine Tr.seq ?_
          refine Tr.rg ?_
          refine TrL.op (ok_move rfl (fun _ => rfl)) rfl rfl ?_
          refine TrL.mut (ctb_srt (by omega) (by omega)) rfl (.nil) (fun _ _ _ _ h => h) (fun _ _ h => by have h2 : _ = 0 := h.2; omega) (fun h => h) rfl ?_
          refine TrL.fin ?_
          refine End.nxt ?_
          refine Tr.rg ?_
          refine TrL.op (ok_move rfl (fun _ => rfl)) rfl rfl ?_
          refine TrL.frz 28 [6, 68] ⟨rfl, rfl, trivial⟩ (by simp only [lenMax]; omega) rfl ?_
          refine TrL.norm (S' := [⟨_, _, _, _⟩, ⟨_, _, _, _⟩, ⟨_, _, _, _⟩, ⟨_, _, _, _⟩, ⟨_, _, _, _⟩, ⟨_, _, _, _⟩, ⟨_, _, _, _⟩, ⟨_, _, _, _⟩, ⟨_, _, _, _⟩, ⟨_, _, _, _⟩, ⟨_, _, _, _⟩, ⟨_, _, _, _⟩]) rfl rfl ?_
          refine TrL.op (ok_move rfl (fun _ => rfl)) rfl rfl ?_
          refine TrL.new (ok_bsl (eL eI) 72 (fun hp => .cons rfl <| .nil) rfl rfl rfl rfl) rfl rfl rfl rfl ?_
          refine TrL.app rfl rfl rfl rfl rfl rfl rfl rfl (by first | omega | (simp only [List.length_cons, List.length_nil]; omega)) (by first | omega | (simp only [List.length_cons, List.length_nil]; omega)) ?_
          refine TrL.norm (S' := [⟨_, _, _, _⟩, ⟨_, _, _, _⟩, ⟨_, _, _, _⟩, ⟨_, _, _, _⟩, ⟨_, _, _, _⟩, ⟨_, _, _, _⟩, ⟨_, _, _, _⟩, ⟨_, _, _, _⟩, ⟨_, _, _, _⟩, ⟨_, _, _, _⟩, ⟨_, _, _, _⟩, ⟨_, _, _, _⟩, ⟨_, _, _, _⟩, ⟨_, _, _, _⟩, ⟨_, _, _, _⟩]) rfl rfl ?_
          refine TrL.op (ok_assign rfl (fun _ => rfl)) rfl rfl ?_
          refine TrL.fin ?_
          refine End.blk ?_
          refine End.nxt ?_
          refine Tr.rg ?_
          refine TrL.op (ok_add rfl (fun _ => rfl) rfl (fun _ => rfl) (fun _ => by omega)) rfl rfl ?_
          refine TrL.op (ok_move rfl (fun _ => rfl)) rfl rfl ?_
          refine TrL.fin ?_
          exact End.lp (k + 1) (by first | rfl | omega | (simp; done) | (simp; omega) | assumption) (by omega) (Ent.mk (.o rfl (by rw [comps_new hm, List.length_append]; rfl) rfl <| .i rfl (by first | rfl | omega | (simp; done) | (simp; omega) | assumption) <| .k rfl rfl <| .k rfl rfl <| .k rfl rfl <| .nil) (.a (by rw [comps_new hm, hb, sort_asc (reach_good v (Sq.nat hk))]; rfl) (by rw [comps_new hm, List.length_append]; rfl) <| .a (by rw [hb, comps_new hm]; exact seenB_congr (fun x hx => by simp [mem_compL v (Sq.nat hk)])) (by first | rfl | omega | (simp; done) | (simp; omega) | assumption) <| .k rfl <| .nil) rfl)
    · intro h4
      replace h4 := Int.not_lt.1 (of_decide_eq_false h4)
      refine Tr.exit ?_
      refine Exs.thn ?_
      refine Exs.thn ?_
      refine Exs.here ?_
      exact End.cut (k) (by omega) (Ent.mk (.o rfl (by first | rfl | omega | (simp; done) | (simp; omega) | assumption) rfl <| .i rfl (by first | rfl | omega | (simp; done) | (simp; omega) | assumption) <| .k rfl rfl <| .k rfl rfl <| .k rfl rfl <| .nil) (.a (by first | rfl | omega | (simp; done) | (simp; omega) | assumption) (by first | rfl | omega | (simp; done) | (simp; omega) | assumption) <| .a (by first | rfl | omega | (simp; done) | (simp; omega) | assumption) (by first | rfl | omega | (simp; done) | (simp; omega) | assumption) <| .k rfl <| .nil) rfl)
  · rintro _ rfl
    refine End.norm (S' := [⟨4, true, _, _⟩, ⟨17, true, _, _⟩, ⟨1, true, _, _⟩, ⟨3, true, _, _⟩, ⟨16, true, _, _⟩]) (M' := [⟨4, _, _⟩, ⟨13, _, _⟩, ⟨1, _, _⟩]) rfl rfl ?_
    have hcl := comps_len (o := o) (k := o.1.length)
    refine End.nxt ?_
    refine Tr.seq ?_
    refine Tr.rg ?_
    refine TrL.op (ok_move rfl (fun _ => rfl)) rfl rfl ?_
    refine TrL.op (ok_assign rfl (fun _ => rfl)) rfl rfl ?_
    refine TrL.fin ?_
    refine End.nxt ?_
    refine Tr.frz 4 [2] ⟨rfl, trivial⟩ (by simp only [lenMax]; omega) rfl ?_
    refine Tr.ret ?_
    exact Rts.res1 (fn := Try.f84) rfl (.r rfl (by first | rfl | omega | (simp; done) | (simp; omega) | assumption) <| .nil)

end Go.Fl

/- Contracts: labels; the reference. -/
namespace Go.Fl
open Go Go.Proofs

set_option maxRecDepth 100000 in
theorem ct_connected (l : List Ori) : Ct Try.prog 66 [kRd (eL eO) l] (kI (connE l)) := by
  refine Ct.mk Try.func66 rfl Try.ntmps66 rfl (fun w J => ?_)
  refine Tr.fact (s := 0) rfl (fun _ _ h => lenB h) (fun hb => ?_)
  refine Tr.seq ?_
  refine Tr.rg ?_
  refine TrL.op (ok_assign rfl (fun _ => rfl)) rfl rfl ?_
  refine TrL.fin ?_
  refine End.nxt ?_
  refine Tr.seq ?_
  refine Tr.seq ?_
  refine Tr.rg ?_
  refine TrL.op (ok_move rfl (fun _ => rfl)) rfl rfl ?_
  refine TrL.op (ok_lenJ rfl (fun _ => rfl)) rfl rfl ?_
  refine TrL.op (ok_move rfl (fun _ => rfl)) rfl rfl ?_
  refine TrL.fin ?_
  refine End.nxt ?_
  refine Tr.for1 (σ := Nat) [⟨0, true, _, _⟩, ⟨8, true, _, _⟩, ⟨9, true, _, _⟩] [] (fun k => [⟨10, true, [], kI (k : Int)⟩]) (fun k => []) (fun k => k ≤ l.length ∧ ∀ i, i < k → chkO (nth l i) = 0) (fun k => ∀ i, i < l.length → chkO (nth l i) = 0) (fun k => l.length - k) (0) ⟨Nat.zero_le _, fun i h => absurd h (by omega)⟩ (Ent.mk (.i rfl (by first | rfl | omega | (simp; done) | (simp; omega) | assumption) <| .k rfl rfl <| .k rfl rfl <| .k rfl rfl <| .nil) (.nil) rfl) ?_ ?_
  · rintro k ⟨hk0, hR0⟩
    refine Tr.norm (S' := [⟨10, true, _, _⟩, ⟨0, true, _, _⟩, ⟨8, true, _, _⟩, ⟨9, true, _, _⟩]) (M' := []) rfl rfl ?_
    refine Tr.seq ?_
    refine Tr.rg ?_
    refine TrL.op (ok_lss rfl (fun _ => rfl) rfl (fun _ => rfl)) rfl rfl ?_
    refine TrL.fin ?_
    refine End.nxt ?_
    refine Tr.seq ?_
    refine Tr.cnd rfl ?_ ?_
    · intro h2
      replace h2 := of_decide_eq_true h2
      refine Tr.skip ?_
      refine End.nxt ?_
      refine Tr.seq ?_
      refine Tr.blk ?_
      refine Tr.seq ?_
      refine Tr.rg ?_
      first | refine TrL.op (ok_idxN rfl (fun _ => rfl) rfl (fun _ => rfl) rfl (fun _ => by omega)) rfl rfl ?_ | refine TrL.op (ok_idxP rfl (fun _ => rfl) rfl (fun _ => rfl) rfl (fun _ => by omega)) rfl rfl ?_
      refine TrL.op (ok_ldPA rfl (fun _ => rfl) rfl rfl) rfl rfl ?_
      refine TrL.new (ok_alloc 4) rfl rfl rfl rfl ?_
      refine TrL.stB rfl rfl rfl rfl ?_
      refine TrL.fin ?_
      refine End.nxt ?_
      refine Tr.seq ?_
      refine Tr.rg ?_
      refine TrL.op (ok_ldBS rfl (fun _ => rfl)) rfl rfl ?_
      refine TrL.op (ok_call (fun hp => ct_oCheck _) (.s rfl (fun _ => rfl) rfl <| .nil)) rfl rfl ?_
      refine TrL.op (ok_assign rfl (fun _ => rfl)) rfl rfl ?_
      refine TrL.fin ?_
      refine End.nxt ?_
      refine Tr.seq ?_
      refine Tr.rg ?_
      refine TrL.op (ok_move rfl (fun _ => rfl)) rfl rfl ?_
      refine TrL.op (ok_neq rfl (fun _ => rfl) rfl (fun _ => rfl)) rfl rfl ?_
      refine TrL.fin ?_
      refine End.nxt ?_
      refine Tr.cnd rfl ?_ ?_
      · intro h5
        replace h5 := of_decide_eq_true h5
        refine Tr.seq ?_
        refine Tr.rg ?_
        refine TrL.op (ok_move rfl (fun _ => rfl)) rfl rfl ?_
        refine TrL.op (ok_assign rfl (fun _ => rfl)) rfl rfl ?_
        refine TrL.fin ?_
        refine End.nxt ?_
        refine Tr.ret ?_
        refine Rts.out ?_
        refine Rts.thn ?_
        refine Rts.thn ?_
        refine Rts.out ?_
        refine Rts.thn ?_
        refine Rts.thn ?_
        exact Rts.res1 (fn := Try.f66) rfl (.i rfl (by unfold connE; rw [orE_l (by rw [fstE_at (k := k) (by rw [List.length_map]; omega) (fun i hi => by rw [nth_map (by omega)]; exact hR0 i hi) (by rw [nth_map (by omega)]; exact h5), nth_map (by omega)]; exact h5), fstE_at (k := k) (by rw [List.length_map]; omega) (fun i hi => by rw [nth_map (by omega)]; exact hR0 i hi) (by rw [nth_map (by omega)]; exact h5), nth_map (by omega)]) <| .nil)
      · intro h5
        replace h5 := Classical.not_not.1 (of_decide_eq_false h5)
        refine Tr.skip ?_
        refine End.blk ?_
        refine End.nxt ?_
        refine Tr.rg ?_
        refine TrL.op (ok_add rfl (fun _ => rfl) rfl (fun _ => rfl) (fun _ => by omega)) rfl rfl ?_
        refine TrL.op (ok_move rfl (fun _ => rfl)) rfl rfl ?_
        refine TrL.fin ?_
        exact End.lp (k + 1) ⟨by omega, all_succ hR0 h5⟩ (by omega) (Ent.mk (.i rfl (by first | rfl | omega | (simp; done) | (simp; omega) | assumption) <| .k rfl rfl <| .k rfl rfl <| .k rfl rfl <| .nil) (.nil) rfl)
    · intro h2
      replace h2 := Int.not_lt.1 (of_decide_eq_false h2)
      refine Tr.exit ?_
      refine Exs.thn ?_
      refine Exs.thn ?_
      refine Exs.here ?_
      exact End.cut (k) (fun i hi => hR0 i (by omega)) (Ent.mk (.i rfl (by first | rfl | omega | (simp; done) | (simp; omega) | assumption) <| .k rfl rfl <| .k rfl rfl <| .k rfl rfl <| .nil) (.nil) rfl)
  · intro k hE0
    refine End.norm (S' := [⟨10, true, _, _⟩, ⟨0, true, _, _⟩, ⟨8, true, _, _⟩, ⟨9, true, _, _⟩]) (M' := []) rfl rfl ?_
    refine End.nxt ?_
    refine Tr.seq ?_
    refine Tr.seq ?_
    refine Tr.rg ?_
    refine TrL.op (ok_move rfl (fun _ => rfl)) rfl rfl ?_
    refine TrL.op (ok_lenJ rfl (fun _ => rfl)) rfl rfl ?_
    refine TrL.op (ok_move rfl (fun _ => rfl)) rfl rfl ?_
    refine TrL.fin ?_
    refine End.nxt ?_
    refine Tr.for1 (σ := Nat) [⟨20, true, _, _⟩, ⟨21, true, _, _⟩] [] (fun k => [⟨22, true, [], kI (k : Int)⟩]) (fun k => []) (fun k => k ≤ l.length ∧ ∀ i, i < k → splE (nth l i) = 0) (fun k => ∀ i, i < l.length → splE (nth l i) = 0) (fun k => l.length - k) (0) ⟨Nat.zero_le _, fun i h => absurd h (by omega)⟩ (Ent.mk (.i rfl (by first | rfl | omega | (simp; done) | (simp; omega) | assumption) <| .k rfl rfl <| .k rfl rfl <| .nil) (.nil) rfl) ?_ ?_
    · rintro k ⟨hk1, hR1⟩
      refine Tr.norm (S' := [⟨22, true, _, _⟩, ⟨20, true, _, _⟩, ⟨21, true, _, _⟩]) (M' := []) rfl rfl ?_
      refine Tr.seq ?_
      refine Tr.rg ?_
      refine TrL.op (ok_lss rfl (fun _ => rfl) rfl (fun _ => rfl)) rfl rfl ?_
      refine TrL.fin ?_
      refine End.nxt ?_
      refine Tr.seq ?_
      refine Tr.cnd rfl ?_ ?_
      · intro h9
        replace h9 := of_decide_eq_true h9
        refine Tr.skip ?_
        refine End.nxt ?_
        refine Tr.seq ?_
        refine Tr.blk ?_
        refine Tr.seq ?_
        refine Tr.rg ?_
        first | refine TrL.op (ok_idxN rfl (fun _ => rfl) rfl (fun _ => rfl) rfl (fun _ => by omega)) rfl rfl ?_ | refine TrL.op (ok_idxP rfl (fun _ => rfl) rfl (fun _ => rfl) rfl (fun _ => by omega)) rfl rfl ?_
        refine TrL.op (ok_ldPA rfl (fun _ => rfl) rfl rfl) rfl rfl ?_
        refine TrL.new (ok_alloc 7) rfl rfl rfl rfl ?_
        refine TrL.stB rfl rfl rfl rfl ?_
        refine TrL.fin ?_
        refine End.nxt ?_
        refine Tr.seq ?_
        refine Tr.rg ?_
        refine TrL.op (ok_ldBS rfl (fun _ => rfl)) rfl rfl ?_
        refine TrL.op (ok_call (fun hp => ct_components _ (valid_of (hE0 k (by omega)))) (.s rfl (fun _ => rfl) rfl <| .nil)) rfl rfl ?_
        refine TrL.op (ok_lenJ rfl (fun _ => rfl)) rfl rfl ?_
        refine TrL.op (ok_gtr rfl (fun _ => rfl) rfl (fun _ => rfl)) rfl rfl ?_
        refine TrL.fin ?_
        refine End.nxt ?_
        refine Tr.cnd rfl ?_ ?_
        · intro h11
          replace h11 := of_decide_eq_true h11
          refine Tr.seq ?_
          refine Tr.rg ?_
          refine TrL.op (ok_assign rfl (fun _ => rfl)) rfl rfl ?_
          refine TrL.fin ?_
          refine End.nxt ?_
          refine Tr.ret ?_
          refine Rts.out ?_
          refine Rts.thn ?_
          refine Rts.thn ?_
          refine Rts.out ?_
          refine Rts.thn ?_
          refine Rts.thn ?_
          exact Rts.res1 (fn := Try.f66) rfl (.i rfl (by unfold connE; rw [orE_r (fstE_zero (fun i hi => by rw [List.length_map] at hi; rw [nth_map hi]; exact hE0 i hi)), fstE_at (k := k) (by rw [List.length_map]; omega) (fun i hi => by rw [nth_map (by omega)]; exact hR1 i hi) (by rw [nth_map (by omega), splE_pos (by omega)]; omega), nth_map (by omega), splE_pos (by omega)]) <| .nil)
        · intro h11
          replace h11 := Int.not_lt.1 (of_decide_eq_false h11)
          refine Tr.skip ?_
          refine End.blk ?_
          refine End.nxt ?_
          refine Tr.rg ?_
          refine TrL.op (ok_add rfl (fun _ => rfl) rfl (fun _ => rfl) (fun _ => by omega)) rfl rfl ?_
          refine TrL.op (ok_move rfl (fun _ => rfl)) rfl rfl ?_
          refine TrL.fin ?_
          exact End.lp (k + 1) ⟨by omega, all_succ hR1 (splE_zero (by omega))⟩ (by omega) (Ent.mk (.i rfl (by first | rfl | omega | (simp; done) | (simp; omega) | assumption) <| .k rfl rfl <| .k rfl rfl <| .nil) (.nil) rfl)
      · intro h9
        replace h9 := Int.not_lt.1 (of_decide_eq_false h9)
        refine Tr.exit ?_
        refine Exs.thn ?_
        refine Exs.thn ?_
        refine Exs.here ?_
        exact End.cut (k) (fun i hi => hR1 i (by omega)) (Ent.mk (.i rfl (by first | rfl | omega | (simp; done) | (simp; omega) | assumption) <| .k rfl rfl <| .k rfl rfl <| .nil) (.nil) rfl)
    · intro k hE1
      refine End.norm (S' := [⟨22, true, _, _⟩, ⟨20, true, _, _⟩, ⟨21, true, _, _⟩]) (M' := []) rfl rfl ?_
      refine End.nxt ?_
      refine Tr.seq ?_
      refine Tr.rg ?_
      refine TrL.op (ok_assign rfl (fun _ => rfl)) rfl rfl ?_
      refine TrL.fin ?_
      refine End.nxt ?_
      refine Tr.ret ?_
      exact Rts.res1 (fn := Try.f66) rfl (.i rfl (by unfold connE; rw [orE_r (fstE_zero (fun i hi => by rw [List.length_map] at hi; rw [nth_map hi]; exact hE0 i hi)), fstE_zero (fun i hi => by rw [List.length_map] at hi; rw [nth_map hi]; exact hE1 i hi)]) <| .nil)

set_option maxRecDepth 100000 in
theorem ct_oLabel (o : Ori) : Ct Try.prog 16 [kRd eO o] (kTup [kRd eO (if chk1 o = 0 then lblO o else ([], [])), kRd (eL eI) (if chk1 o = 0 then lblF o else []), kI (chk1 o)]) := by
  refine Ct.mk Try.func16 rfl Try.ntmps16 rfl (fun w J => ?_)
  refine Tr.seq ?_
  refine Tr.rg ?_
  refine TrL.new (ok_box 1 rfl (fun _ => rfl) rfl) rfl rfl rfl rfl ?_
  refine TrL.new (ok_alloc 2) rfl rfl rfl rfl ?_
  refine TrL.op (ok_assign rfl (fun _ => rfl)) rfl rfl ?_
  refine TrL.op (ok_assign rfl (fun _ => rfl)) rfl rfl ?_
  refine TrL.fin ?_
  refine End.nxt ?_
  refine Tr.seq ?_
  refine Tr.seq ?_
  refine Tr.rg ?_
  refine TrL.op (ok_ldBS rfl (fun _ => rfl)) rfl rfl ?_
  refine TrL.op (ok_bslJ eO (fun hp => .cons rfl <| .nil) rfl rfl rfl rfl) rfl rfl ?_
  refine TrL.op (ok_call (fun hp => ct_connected [o]) (.a rfl (fun _ => rfl) <| .nil)) rfl rfl ?_
  refine TrL.op (ok_assign rfl (fun _ => rfl)) rfl rfl ?_
  refine TrL.fin ?_
  refine End.nxt ?_
  refine Tr.seq ?_
  refine Tr.rg ?_
  refine TrL.op (ok_move rfl (fun _ => rfl)) rfl rfl ?_
  refine TrL.op (ok_neq rfl (fun _ => rfl) rfl (fun _ => rfl)) rfl rfl ?_
  refine TrL.fin ?_
  refine End.nxt ?_
  refine Tr.cnd rfl ?_ ?_
  · intro h2
    replace h2 := of_decide_eq_true h2
    rw [connE_one] at h2
    refine Tr.seq ?_
    refine Tr.rg ?_
    refine TrL.op (ok_build (fun hp => .nil)) rfl rfl ?_
    refine TrL.op (ok_move rfl (fun _ => rfl)) rfl rfl ?_
    refine TrL.stB rfl rfl rfl rfl ?_
    refine TrL.op (ok_assign rfl (fun _ => rfl)) rfl rfl ?_
    refine TrL.op (ok_assign rfl (fun _ => rfl)) rfl rfl ?_
    refine TrL.fin ?_
    refine End.nxt ?_
    refine Tr.ret ?_
    refine Rts.thn ?_
    exact Rts.resC (fn := Try.f16) (ts := [3, 4]) rfl rfl rfl (aggRd rfl (by rw [if_neg h2])) (.n rfl (by rw [if_neg h2]) <| .i rfl (by rw [connE_one]) <| .nil)
  · intro h2
    replace h2 := Classical.not_not.1 (of_decide_eq_false h2)
    rw [connE_one] at h2
    obtain ⟨v, cn⟩ := chk1_zero h2
    have hv0 := v.pos
    have hv1 := v.len
    have hv2 := v.le
    refine Tr.skip ?_
    refine End.nxt ?_
    refine Tr.seq ?_
    refine Tr.rg ?_
    refine TrL.new (ok_alloc 6) rfl rfl rfl rfl ?_
    refine TrL.fin ?_
    refine End.nxt ?_
    refine Tr.seq ?_
    refine Tr.rg ?_
    refine TrL.op (ok_assign rfl (fun _ => rfl)) rfl rfl ?_
    refine TrL.fin ?_
    refine End.nxt ?_
    refine Tr.seq ?_
    refine Tr.seq ?_
    refine Tr.rg ?_
    refine TrL.op (ok_fldO rfl (fun _ => rfl)) rfl rfl ?_
    refine TrL.op (ok_ldB rfl (fun _ => rfl) rfl) rfl rfl ?_
    refine TrL.op (ok_lenJ rfl (fun _ => rfl)) rfl rfl ?_
    refine TrL.op (ok_move rfl (fun _ => rfl)) rfl rfl ?_
    refine TrL.fin ?_
    refine End.nxt ?_
    refine Tr.for1 (σ := Nat) [⟨1, true, _, _⟩, ⟨2, true, _, _⟩, ⟨6, true, _, _⟩, ⟨20, true, _, _⟩] [⟨1, _, _⟩, ⟨2, _, _⟩] (fun k => [⟨7, true, [], kRn eI (byL o k)⟩, ⟨21, true, [], kI (k : Int)⟩]) (fun k => [⟨6, [], cBlk [kRd (eL eI) (bst o k).1, kRd (eL eI) (bst o k).2]⟩]) (fun k => k ≤ o.1.length) (fun k => k = o.1.length) (fun k => o.1.length - k) (0) (Nat.zero_le _) (Ent.mk (.conv rfl rfl (fun _ _ h => nil_rn h) rfl <| .i rfl (by first | rfl | omega | (simp; done) | (simp; omega) | assumption) <| .k rfl rfl <| .k rfl rfl <| .k rfl rfl <| .k rfl rfl <| .nil) (.conv (fun _ _ _ h => blk_nil2 h) rfl <| .k rfl <| .k rfl <| .nil) rfl) ?_ ?_
    · intro k hR0
      refine Tr.norm (S' := [⟨7, true, _, _⟩, ⟨21, true, _, _⟩, ⟨1, true, _, _⟩, ⟨2, true, _, _⟩, ⟨6, true, _, _⟩, ⟨20, true, _, _⟩]) (M' := [⟨6, _, _⟩, ⟨1, _, _⟩, ⟨2, _, _⟩]) rfl rfl ?_
      refine Tr.seq ?_
      refine Tr.rg ?_
      refine TrL.op (ok_lss rfl (fun _ => rfl) rfl (fun _ => rfl)) rfl rfl ?_
      refine TrL.fin ?_
      refine End.nxt ?_
      refine Tr.seq ?_
      refine Tr.cnd rfl ?_ ?_
      · intro h7
        replace h7 := of_decide_eq_true h7
        have hks : Sq o.1.length (k : Int) := Sq.nat (by omega)
        refine Tr.skip ?_
        refine End.nxt ?_
        refine Tr.seq ?_
        refine Tr.blk ?_
        refine Tr.seq ?_
        refine Tr.rg ?_
        refine TrL.op (ok_move rfl (fun _ => rfl)) rfl rfl ?_
        refine TrL.op (ok_assign rfl (fun _ => rfl)) rfl rfl ?_
        refine TrL.fin ?_
        refine End.nxt ?_
        refine Tr.seq ?_
        refine Tr.rg ?_
        refine TrL.op (ok_ldBS rfl (fun _ => rfl)) rfl rfl ?_
        refine TrL.op (ok_move rfl (fun _ => rfl)) rfl rfl ?_
        refine TrL.op (ok_call (fun hp => ct_numbering _ _ v hks) (.s rfl (fun _ => rfl) rfl <| .a rfl (fun _ => rfl) <| .nil)) rfl rfl ?_
        refine TrL.op (ok_assign rfl (fun _ => rfl)) rfl rfl ?_
        refine TrL.fin ?_
        refine End.nxt ?_
        refine Tr.seq ?_
        refine Tr.rg ?_
        refine TrL.op (ok_ldBS rfl (fun _ => rfl)) rfl rfl ?_
        refine TrL.op (ok_move rfl (fun _ => rfl)) rfl rfl ?_
        refine TrL.op (ok_call (fun hp => ct_renumbered _ _ v numL_len (numL_rng v cn hks)) (.s rfl (fun _ => rfl) rfl <| .a rfl (fun _ => rfl) <| .nil)) rfl rfl ?_
        refine TrL.new (ok_alloc 10) rfl rfl rfl rfl ?_
        refine TrL.stB rfl rfl rfl rfl ?_
        refine TrL.fin ?_
        refine End.nxt ?_
        refine Tr.seq ?_
        refine Tr.rg ?_
        refine TrL.op (ok_move rfl (fun _ => rfl)) rfl rfl ?_
        refine TrL.op (ok_eqlNilN rfl (fun _ => rfl)) rfl rfl ?_
        refine TrL.op (ok_move rfl (fun _ => rfl)) rfl rfl ?_
        refine TrL.gd rfl rfl rfl (ok_ldBS rfl (fun _ => rfl)) rfl rfl ?_
        refine TrL.gd rfl rfl rfl (ok_ldBS rfl (fun _ => rfl)) rfl rfl ?_
        refine TrL.gd rfl rfl rfl (ok_call (fun hp => ct_ocmp _ _) (.s rfl id rfl <| .s rfl id rfl <| .nil)) rfl rfl ?_
        refine TrL.gd rfl rfl rfl (ok_lss rfl id rfl (fun _ => rfl)) rfl rfl ?_
        refine TrL.op (ok_or rfl (fun _ => rfl) rfl (fun hp h => gdF2 ((fun _ => rfl) hp) h)) rfl rfl ?_
        refine TrL.fin ?_
        refine End.nxt ?_
        refine Tr.cnd rfl ?_ ?_
        · intro h11
          rw [byL_empty hv0] at h11
          have hup := bst_next (o := o) (k := k) (by rcases Bool.or_eq_true_iff.1 h11 with h | h; exact .inl (of_decide_eq_true h); exact .inr (of_decide_eq_true h))
          refine Tr.rg ?_
          refine TrL.op (ok_ldBS rfl (fun _ => rfl)) rfl rfl ?_
          refine TrL.op (ok_move rfl (fun _ => rfl)) rfl rfl ?_
          refine TrL.stB rfl rfl rfl rfl ?_
          refine TrL.op (ok_assign rfl (fun _ => rfl)) rfl rfl ?_
          refine TrL.fin ?_
          refine End.blk ?_
          refine End.nxt ?_
          refine Tr.rg ?_
          refine TrL.op (ok_add rfl (fun _ => rfl) rfl (fun _ => rfl) (fun _ => by omega)) rfl rfl ?_
          refine TrL.op (ok_move rfl (fun _ => rfl)) rfl rfl ?_
          refine TrL.fin ?_
          exact End.lp (k + 1) (by first | rfl | omega | (simp; done) | (simp; omega) | assumption) (by omega) (Ent.mk (.conv rfl rfl (fun _ _ h => by rw [hup.2]; exact rd_rn (byL_ne hv0) h) rfl <| .i rfl (by first | rfl | omega | (simp; done) | (simp; omega) | assumption) <| .k rfl rfl <| .k rfl rfl <| .k rfl rfl <| .k rfl rfl <| .nil) (.e (by rw [hup.1]; rfl) rfl <| .k rfl <| .k rfl <| .nil) rfl)
        · intro h11
          rw [byL_empty hv0] at h11
          obtain ⟨h11a, h11b⟩ := Bool.or_eq_false_iff.1 h11
          have hup := bst_same (of_decide_eq_false h11a) (of_decide_eq_false h11b)
          refine Tr.skip ?_
          refine End.blk ?_
          refine End.nxt ?_
          refine Tr.rg ?_
          refine TrL.op (ok_add rfl (fun _ => rfl) rfl (fun _ => rfl) (fun _ => by omega)) rfl rfl ?_
          refine TrL.op (ok_move rfl (fun _ => rfl)) rfl rfl ?_
          refine TrL.fin ?_
          exact End.lp (k + 1) (by first | rfl | omega | (simp; done) | (simp; omega) | assumption) (by omega) (Ent.mk (.conv rfl rfl (fun _ _ h => by rw [hup.2]; exact h) rfl <| .i rfl (by first | rfl | omega | (simp; done) | (simp; omega) | assumption) <| .k rfl rfl <| .k rfl rfl <| .k rfl rfl <| .k rfl rfl <| .nil) (.e (by rw [hup.1]) rfl <| .k rfl <| .k rfl <| .nil) rfl)
      · intro h7
        replace h7 := Int.not_lt.1 (of_decide_eq_false h7)
        refine Tr.exit ?_
        refine Exs.thn ?_
        refine Exs.thn ?_
        refine Exs.here ?_
        exact End.cut (k) (by omega) (Ent.mk (.k rfl rfl <| .i rfl (by first | rfl | omega | (simp; done) | (simp; omega) | assumption) <| .k rfl rfl <| .k rfl rfl <| .k rfl rfl <| .k rfl rfl <| .nil) (.k rfl <| .k rfl <| .k rfl <| .nil) rfl)
    · rintro _ rfl
      refine End.norm (S' := [⟨7, true, _, _⟩, ⟨21, true, _, _⟩, ⟨1, true, _, _⟩, ⟨2, true, _, _⟩, ⟨6, true, _, _⟩, ⟨20, true, _, _⟩]) (M' := [⟨6, _, _⟩, ⟨1, _, _⟩, ⟨2, _, _⟩]) rfl rfl ?_
      refine End.rnR (s := 7) rfl (bst_end hv0).2 ?_
      refine End.nxt ?_
      refine Tr.seq ?_
      refine Tr.rg ?_
      refine TrL.op (ok_ldBS rfl (fun _ => rfl)) rfl rfl ?_
      refine TrL.op (ok_move rfl (fun _ => rfl)) rfl rfl ?_
      refine TrL.stB rfl rfl rfl rfl ?_
      refine TrL.op (ok_assign rfl (fun _ => rfl)) rfl rfl ?_
      refine TrL.op (ok_assign rfl (fun _ => rfl)) rfl rfl ?_
      refine TrL.fin ?_
      refine End.nxt ?_
      refine Tr.ret ?_
      exact Rts.resC (fn := Try.f16) (ts := [3, 4]) rfl rfl rfl (aggRd rfl (by rw [if_pos h2, (bst_end hv0).1])) (.r rfl (by rw [if_pos h2]) <| .i rfl h2.symm <| .nil)

end Go.Fl

/- Division, lists gone through in place, directions. Plain Lean, no program in sight. -/
namespace Go.Fl
theorem flo_c {a b : Int} : flo a b = if (decide (a.tmod b ≠ 0) && decide (decide (a < 0) ≠ decide (b < 0))) = true then a.tdiv b - 1 else a.tdiv b := by
  unfold flo
  have : (a.tmod b ≠ 0 ∧ (a < 0) ≠ (b < 0)) ↔ (decide (a.tmod b ≠ 0) && decide (decide (a < 0) ≠ decide (b < 0))) = true := by
    rw [Bool.and_eq_true, decide_eq_true_eq, decide_eq_true_eq]
    refine and_congr_right fun _ => not_congr ⟨fun h => by simp only [h], fun h => propext (decide_eq_decide.1 h)⟩
  by_cases h : a.tmod b ≠ 0 ∧ (a < 0) ≠ (b < 0)
  · rw [if_pos h, if_pos (this.1 h)]
  · rw [if_neg h, if_neg (fun k => h (this.2 k))]
def thenP (p q : List Int) (i : Nat) : List Int := tab p.length (fun j => if j < i then nth q (nth p j).toNat else nth p j)
theorem thenP_len {p q : List Int} {i : Nat} : (thenP p q i).length = p.length := tab_len
theorem thenP_zero {p q : List Int} : thenP p q 0 = p := by
  unfold thenP
  exact (tab_congr fun j _ => by rw [if_neg (by omega)]).trans (tab_nth rfl).symm
theorem thenP_at {p q : List Int} {i : Nat} (h : i < p.length) : nth (thenP p q i) i = nth p i := by
  unfold thenP; rw [nth_tab h, if_neg (by omega)]
theorem thenP_succ {p q : List Int} {i : Nat} : (thenP p q i).set i (nth q (nth p i).toNat) = thenP p q (i + 1) := by
  unfold thenP
  rw [tab_set]
  refine tab_congr fun j _ => ?_
  by_cases e : j = i
  · subst e; rw [if_pos rfl, if_pos (by omega)]
  · rw [if_neg e]
    by_cases h : j < i
    · rw [if_pos h, if_pos (by omega)]
    · rw [if_neg h, if_neg (by omega)]
theorem thenP_all {p q : List Int} {n : Nat} (h : p.length = n) : thenP p q n = thenL p q := by
  unfold thenP thenL
  exact tab_congr fun j hj => by rw [if_pos (by omega)]
def dirE (p q : Int) : Int := if p < -1000 ∨ 1000 < p ∨ q < -1000 ∨ 1000 < q ∨ Int.gcd p q ≠ 1 then 2 else 0
/-- The origamis on the way to a direction. -/
structure TwSt (o : Ori) (p q : Int) (o' : Ori) (p' q' : Int) : Prop where
  v : Valid o'
  len : o'.1.length = o.1.length
  pb : -1000 ≤ p' ∧ p' ≤ 1000
  qb : -1000 ≤ q' ∧ q' ≤ 1000
  gcd : Int.gcd p' q' = 1
  eq : tw o' p' q' = tw o p q
theorem TwSt.start {o : Ori} (v : Valid o) {p q : Int} (h : dirE p q = 0) : TwSt o p q o p q := by
  unfold dirE at h
  split at h
  · cases h
  · rename_i hh
    simp only [not_or, Classical.not_not] at hh
    exact ⟨v, rfl, by omega, by omega, hh.2.2.2.2, rfl⟩
theorem TwSt.next {o o' : Ori} {p q p' q' : Int} (h : TwSt o p q o' p' q') (hq : q' ≠ 0) : TwSt o p q (twO o' (flo p' q')) q' (flo p' q' * q' - p') := by
  obtain ⟨v, hn⟩ := twO_valid h.v (flo p' q')
  have := flo_less p' hq
  have := h.qb
  exact ⟨v, hn.trans h.len, h.qb, by omega, (gcd_next _).trans h.gcd, (tw_next hq).symm.trans h.eq⟩
theorem TwSt.fin {o o' : Ori} {p q p' : Int} (h : TwSt o p q o' p' 0) : (p' = 1 ∨ p' = -1) ∧ tw o p q = if p' < 0 then turnO o' else o' := by
  have := h.gcd
  rw [Int.gcd_zero_right] at this
  exact ⟨by omega, by rw [← h.eq, tw_end]⟩
/-- Orders, as numbers below 64. -/
def fin64 (x : Int) : Fin 64 := Fin.ofNat 64 x.toNat
theorem fin64_val {x : Int} (h : 0 ≤ x ∧ x < 64) : ((fin64 x).val : Int) = x := by
  unfold fin64
  simp only [Fin.val_ofNat]
  omega
theorem map_fin64 {L : List Int} (h : ∀ x ∈ L, 0 ≤ x ∧ x < 64) : (L.map fin64).map (fun x => (x.val : Int)) = L := by
  rw [List.map_map]
  conv => rhs; rw [← List.map_id L]
  exact List.map_congr_left fun x hx => fin64_val (h x hx)
def ordTo (L : List (List Int)) (k : Nat) : List Int := ordOf (L.take k)
theorem ordTo_succ {L : List (List Int)} {k : Nat} (h : k < L.length) : ordTo L (k + 1) = ordTo L k ++ [((nth L k).length : Int) - 1] := by
  unfold ordTo ordOf; rw [take_succ_nth h, List.map_append]; rfl
theorem ordTo_all {L : List (List Int)} : ordTo L L.length = ordOf L := by unfold ordTo; rw [List.take_length]
theorem ordTo_len {L : List (List Int)} {k : Nat} (h : k ≤ L.length) : (ordTo L k).length = k := by unfold ordTo ordOf; simp; omega
theorem vtx_row_len {o : Ori} (v : Valid o) {k : Nat} (hk : k < (vtx o).length) : 0 < (nth (vtx o) k).length ∧ (nth (vtx o) k).length ≤ o.1.length := cycs_len_pos v.pC (nth_mem hk)
end Go.Fl

/- max, min. No program in sight. -/
namespace Go.Fl
open Go Go.RowKit
section
variable {P : Program} {c : Ctx} {S : Slots} {M : Conts} {p : Bool} {d : Option Tmp} {ty : TypeId} {pos : String} {af : Array Edge} {gd : Option (Nat × Bool)} {x y : Operand} {b b' : Bool}
theorem ok_max {ts : Array TypeId} {m n : Int} (hx : opK S x = some (b, kI m)) (hb : p = true → b = true) (hy : opK S y = some (b', kI n)) (hb' : p = true → b' = true) : OpOk P c S M ⟨d, .call { callee := .builtin .max, args := #[x, y], argTypes := ts }, ty, pos, af, gd⟩ p (kI (if n > m then n else m)) none :=
  OpOk.pure fun hp a g w _ _ ho => by
    have h1 : a.eval x = _ := ho x (by simp [Op.operands, Call.operands]) b _ hx (hb hp)
    have h2 : a.eval y = _ := ho y (by simp [Op.operands, Call.operands]) b' _ hy (hb' hp)
    exact ⟨_, by simp [execOp, resolve, invoke, builtin, h1, h2, run_max_int2], rfl⟩
theorem ok_min {ts : Array TypeId} {m n : Int} (hx : opK S x = some (b, kI m)) (hb : p = true → b = true) (hy : opK S y = some (b', kI n)) (hb' : p = true → b' = true) : OpOk P c S M ⟨d, .call { callee := .builtin .min, args := #[x, y], argTypes := ts }, ty, pos, af, gd⟩ p (kI (if n < m then n else m)) none :=
  OpOk.pure fun hp a g w _ _ ho => by
    have h1 : a.eval x = _ := ho x (by simp [Op.operands, Call.operands]) b _ hx (hb hp)
    have h2 : a.eval y = _ := ho y (by simp [Op.operands, Call.operands]) b' _ hy (hb' hp)
    exact ⟨_, by simp [execOp, resolve, invoke, builtin, h1, h2, Builtin.min_, Builtin.min2], rfl⟩
end
end Go.Fl

/- Contracts: strata, directions; the examples. -/
namespace Go.Fl
open Go Go.Proofs

instance : NB 1 2 := ⟨rfl⟩

theorem ltOf_val {a b : Fin 64} : ltOf (fun x y : Fin 64 => ((y.val : Int) - x.val)) b a = decide ((a.val : Int) < b.val) := by
  show decide ((a.val : Int) - b.val < 0) = _
  by_cases h : (a.val : Int) < b.val
  · rw [decide_eq_true h, decide_eq_true (by omega)]
  · rw [decide_eq_false h, decide_eq_false (by omega)]
theorem calls_desc (x y : Fin 64) (w : World) : Calls Try.prog 96 #[.int .i64 x.val, .int .i64 y.val] w fun e w' => e = .returned (.int .i64 ((y.val : Int) - x.val)) ∧ ∃ q os', w' = Sort.grow (w.drewN q) os' := by
  have hx := x.isLt; have hy := y.isLt
  have hw : IntKind.i64.wrap ((y.val : Int) - x.val) = (y.val : Int) - x.val := W_in (by omega) (by omega)
  generalize hX : (x.val : Int) = X at *
  generalize hY : (y.val : Int) = Y at *
  go_enter Try.func96, Try.ntmps96
  go_wp2
  go_ret
  exact ⟨rfl, 0, #[], by simp [Sort.grow, World.drewN]⟩
theorem ctb_dn {z : Bool} {ty : TypeId} {L : List Int} {n len : Nat} (h : ∀ x ∈ L, 0 ≤ x ∧ x ≤ n) (hn : n ≤ 60) (hl : L.length = len) (h0 : 0 < len) (hm : len ≤ 1000000) :
    CtB Try.prog 95 (kOsl 0 len) [kDet (.func (.func 96) #[] #[])] (cArr z ty eI L len) (cArr z ty eI (dnL L n) len) (kDet (.tuple #[])) := by
  have h64 : ∀ x ∈ L, 0 ≤ x ∧ x < 64 := fun x hx => by have := h x hx; omega
  have hO : Sort.SWO (ltOf (fun x y : Fin 64 => ((y.val : Int) - x.val))) := ⟨fun x => by rw [ltOf_val]; simp, fun x y z h1 h2 => by rw [ltOf_val] at *; simp at *; omega, fun x y z h1 h2 => by rw [ltOf_val] at *; simp at *; omega⟩
  have := ctb_sortF (P := Try.prog) Try.sortF (fun x : Fin 64 => (x.val : Int)) (fun x y : Fin 64 => ((y.val : Int) - x.val)) hO 96 (enters_of Try.func96 (by kernel_rfl) rfl) calls_desc (z := z) (ty := ty) (L.map fin64) (ys := dnL L n) (len := len) h0 hm (by rw [List.length_map]; exact hl) (fun d' hp hd => dnL_uniq h ((hp.map _).trans (List.Perm.of_eq (map_fin64 h64))) ?_)
  · rw [map_fin64 h64] at this; exact this
  · rw [List.pairwise_map]
    exact hd.imp fun h => by rw [ltOf_val] at h; simpa using h


theorem ct_cycV (o : Ori) (v : Valid o) : Ct Try.prog 83 [kRd (eL eI) (comm o)] (kRd (eL (eL eI)) (vtx o)) := by
  have hl := comm_len o
  have := v.le
  have h := ct_cycles (comm o) (by omega) (by rw [hl]; exact comm_rng v)
  rw [hl] at h; exact h

theorem gcd_sw (x y : Nat) : Nat.gcd y (x % y) = Nat.gcd x y := by rw [Nat.gcd_comm x y, Nat.gcd_rec y x, Nat.gcd_comm]
set_option maxRecDepth 100000 in
theorem ct_oStratum (o : Ori) : Ct Try.prog 47 [kRd eO o] (kTup [kRd (eL eI) (if chk1 o = 0 then stratL o else []), kI (chk1 o)]) := by
  refine Ct.mk Try.func47 rfl Try.ntmps47 rfl (fun w J => ?_)
  refine Tr.seq ?_
  refine Tr.rg ?_
  refine TrL.new (ok_box 1 rfl (fun _ => rfl) rfl) rfl rfl rfl rfl ?_
  refine TrL.op (ok_assign rfl (fun _ => rfl)) rfl rfl ?_
  refine TrL.op (ok_assign rfl (fun _ => rfl)) rfl rfl ?_
  refine TrL.fin ?_
  refine End.nxt ?_
  refine Tr.seq ?_
  refine Tr.seq ?_
  refine Tr.rg ?_
  refine TrL.op (ok_ldBS rfl (fun _ => rfl)) rfl rfl ?_
  refine TrL.op (ok_bslJ eO (fun hp => .cons rfl <| .nil) rfl rfl rfl rfl) rfl rfl ?_
  refine TrL.op (ok_call (fun hp => ct_connected [o]) (.a rfl (fun _ => rfl) <| .nil)) rfl rfl ?_
  refine TrL.op (ok_assign rfl (fun _ => rfl)) rfl rfl ?_
  refine TrL.fin ?_
  refine End.nxt ?_
  refine Tr.seq ?_
  refine Tr.rg ?_
  refine TrL.op (ok_move rfl (fun _ => rfl)) rfl rfl ?_
  refine TrL.op (ok_neq rfl (fun _ => rfl) rfl (fun _ => rfl)) rfl rfl ?_
  refine TrL.fin ?_
  refine End.nxt ?_
  refine Tr.cnd rfl ?_ ?_
  · intro h2
    replace h2 := of_decide_eq_true h2
    rw [connE_one] at h2
    refine Tr.seq ?_
    refine Tr.rg ?_
    refine TrL.op (ok_move rfl (fun _ => rfl)) rfl rfl ?_
    refine TrL.op (ok_assign rfl (fun _ => rfl)) rfl rfl ?_
    refine TrL.op (ok_assign rfl (fun _ => rfl)) rfl rfl ?_
    refine TrL.fin ?_
    refine End.nxt ?_
    refine Tr.ret ?_
    refine Rts.thn ?_
    exact Rts.res (fn := Try.f47) (ts := [2, 3]) rfl rfl (.n rfl (by rw [if_neg h2]) <| .i rfl (by rw [connE_one]) <| .nil)
  · intro h2
    replace h2 := Classical.not_not.1 (of_decide_eq_false h2)
    rw [connE_one] at h2
    obtain ⟨v, cn⟩ := chk1_zero h2
    have hl := comm_len o
    have hvl := vtx_le (o := o)
    have hvp := vtx_pos v
    have hv0 := v.pos
    have hv1 := v.len
    have hv2 := v.le
    refine Tr.skip ?_
    refine End.nxt ?_
    refine Tr.seq ?_
    refine Tr.rg ?_
    refine TrL.op (ok_assign rfl (fun _ => rfl)) rfl rfl ?_
    refine TrL.fin ?_
    refine End.nxt ?_
    refine Tr.seq ?_
    refine Tr.seq ?_
    refine Tr.rg ?_
    refine TrL.op (ok_ldBS rfl (fun _ => rfl)) rfl rfl ?_
    refine TrL.op (ok_call (fun hp => ct_comm _ v) (.s rfl (fun _ => rfl) rfl <| .nil)) rfl rfl ?_
    refine TrL.op (ok_call (fun hp => ct_cycV o v) (.a rfl (fun _ => rfl) <| .nil)) rfl rfl ?_
    refine TrL.op (ok_lenJ rfl (fun _ => rfl)) rfl rfl ?_
    refine TrL.op (ok_move rfl (fun _ => rfl)) rfl rfl ?_
    refine TrL.fin ?_
    refine End.nxt ?_
    refine Tr.grow (s := 5) rfl rfl 5 rfl 3 eI rfl ?_
    refine Tr.for1 (σ := Nat) [⟨16, true, _, _⟩, ⟨17, true, _, _⟩] [] (fun k => [⟨18, true, [], kI (k : Int)⟩, ⟨5, true, [5], kOsl 5 k⟩]) (fun k => [⟨5, [], cArr true 3 eI (ordTo (vtx o) k) k⟩]) (fun k => k ≤ (vtx o).length) (fun k => k = (vtx o).length) (fun k => (vtx o).length - k) (0) (Nat.zero_le _) (Ent.mk (.i rfl (by first | rfl | omega | (simp; done) | (simp; omega) | assumption) <| .o rfl (by first | rfl | omega | (simp; done) | (simp; omega) | assumption) rfl <| .k rfl rfl <| .k rfl rfl <| .nil) (.a (by rfl) (by first | rfl | omega | (simp; done) | (simp; omega) | assumption) <| .nil) rfl) ?_ ?_
    · intro k hR0
      refine Tr.norm (S' := [⟨18, true, _, _⟩, ⟨5, true, _, _⟩, ⟨16, true, _, _⟩, ⟨17, true, _, _⟩]) (M' := [⟨5, _, _⟩]) rfl rfl ?_
      have hrl := fun h => vtx_row_len v (k := k) h
      refine Tr.seq ?_
      refine Tr.rg ?_
      refine TrL.op (ok_lss rfl (fun _ => rfl) rfl (fun _ => rfl)) rfl rfl ?_
      refine TrL.fin ?_
      refine End.nxt ?_
      refine Tr.seq ?_
      refine Tr.cnd rfl ?_ ?_
      · intro h6
        replace h6 := of_decide_eq_true h6
        refine Tr.skip ?_
        refine End.nxt ?_
        refine Tr.seq ?_
        refine Tr.blk ?_
        refine Tr.seq ?_
        refine Tr.rg ?_
        have hrl2 := hrl (by omega)
        first | refine TrL.op (ok_idxN rfl (fun _ => rfl) rfl (fun _ => rfl) rfl (fun _ => by omega)) rfl rfl ?_ | refine TrL.op (ok_idxP rfl (fun _ => rfl) rfl (fun _ => rfl) rfl (fun _ => by omega)) rfl rfl ?_
        refine TrL.op (ok_ldP rfl (fun _ => rfl) rfl) rfl rfl ?_
        refine TrL.op (ok_assign rfl (fun _ => rfl)) rfl rfl ?_
        refine TrL.fin ?_
        refine End.nxt ?_
        refine Tr.rg ?_
        refine TrL.op (ok_move rfl (fun _ => rfl)) rfl rfl ?_
        refine TrL.op (ok_move rfl (fun _ => rfl)) rfl rfl ?_
        refine TrL.op (ok_lenJ rfl (fun _ => rfl)) rfl rfl ?_
        refine TrL.op (ok_sub rfl (fun _ => rfl) rfl (fun _ => rfl) (fun _ => by omega)) rfl rfl ?_
        refine TrL.new (ok_bsl eI 26 (fun hp => .cons rfl <| .nil) rfl rfl rfl rfl) rfl rfl rfl rfl ?_
        refine TrL.app rfl rfl rfl rfl rfl rfl rfl rfl (by first | omega | (simp only [List.length_cons, List.length_nil]; omega)) (by first | omega | (simp only [List.length_cons, List.length_nil]; omega)) ?_
        refine TrL.norm (S' := [⟨_, _, _, _⟩, ⟨_, _, _, _⟩, ⟨_, _, _, _⟩, ⟨_, _, _, _⟩, ⟨_, _, _, _⟩, ⟨_, _, _, _⟩, ⟨_, _, _, _⟩, ⟨_, _, _, _⟩, ⟨_, _, _, _⟩, ⟨_, _, _, _⟩, ⟨_, _, _, _⟩, ⟨_, _, _, _⟩, ⟨_, _, _, _⟩, ⟨_, _, _, _⟩]) rfl rfl ?_
        refine TrL.op (ok_assign rfl (fun _ => rfl)) rfl rfl ?_
        refine TrL.fin ?_
        refine End.blk ?_
        refine End.nxt ?_
        refine Tr.rg ?_
        refine TrL.op (ok_add rfl (fun _ => rfl) rfl (fun _ => rfl) (fun _ => by omega)) rfl rfl ?_
        refine TrL.op (ok_move rfl (fun _ => rfl)) rfl rfl ?_
        refine TrL.fin ?_
        exact End.lp (k + 1) (by first | rfl | omega | (simp; done) | (simp; omega) | assumption) (by omega) (Ent.mk (.i rfl (by first | rfl | omega | (simp; done) | (simp; omega) | assumption) <| .o rfl (by first | rfl | omega | (simp; done) | (simp; omega) | assumption) rfl <| .k rfl rfl <| .k rfl rfl <| .nil) (.a (ordTo_succ (by omega)).symm (by first | rfl | omega | (simp; done) | (simp; omega) | assumption) <| .nil) rfl)
      · intro h6
        replace h6 := Int.not_lt.1 (of_decide_eq_false h6)
        refine Tr.exit ?_
        refine Exs.thn ?_
        refine Exs.thn ?_
        refine Exs.here ?_
        exact End.cut (k) (by omega) (Ent.mk (.i rfl (by first | rfl | omega | (simp; done) | (simp; omega) | assumption) <| .o rfl (by first | rfl | omega | (simp; done) | (simp; omega) | assumption) rfl <| .k rfl rfl <| .k rfl rfl <| .nil) (.a (by first | rfl | omega | (simp; done) | (simp; omega) | assumption) (by first | rfl | omega | (simp; done) | (simp; omega) | assumption) <| .nil) rfl)
    · rintro _ rfl
      refine End.norm (S' := [⟨18, true, _, _⟩, ⟨5, true, _, _⟩, ⟨16, true, _, _⟩, ⟨17, true, _, _⟩]) (M' := [⟨5, _, _⟩]) rfl rfl ?_
      refine End.nxt ?_
      refine Tr.seq ?_
      refine Tr.rg ?_
      have hor := ordOf_rng v.pC
      have hol : (ordOf (vtx o)).length = (vtx o).length := (by unfold ordOf; simp)
      rw [← show vtx o = cycs (comm o) o.1.length from rfl] at hor
      rw [← ordTo_all (L := vtx o)] at hor hol
      refine TrL.op (ok_move rfl (fun _ => rfl)) rfl rfl ?_
      refine TrL.mut (ctb_dn hor (by omega) hol (by omega) (by omega)) rfl (.a rfl (fun _ => rfl) <| .nil) (fun _ _ _ _ h => h) (fun _ _ h => by have h2 : _ = 0 := h.2; omega) (fun h => h) rfl ?_
      refine TrL.fin ?_
      refine End.nxt ?_
      refine Tr.seq ?_
      refine Tr.rg ?_
      refine TrL.op (ok_move rfl (fun _ => rfl)) rfl rfl ?_
      refine TrL.op (ok_assign rfl (fun _ => rfl)) rfl rfl ?_
      refine TrL.op (ok_assign rfl (fun _ => rfl)) rfl rfl ?_
      refine TrL.fin ?_
      refine End.nxt ?_
      refine Tr.frz 5 [2] ⟨rfl, trivial⟩ (by simp only [lenMax]; omega) rfl ?_
      refine Tr.ret ?_
      exact Rts.res (fn := Try.f47) (ts := [2, 3]) rfl rfl (.r rfl (by rw [if_pos h2]; unfold stratL ordsL; rw [← ordTo_all]) <| .i rfl h2.symm <| .nil)

set_option maxRecDepth 100000 in
theorem ct_osize (n : Int) (h : -9223372036854775807 ≤ n ∧ n ≤ 9223372036854775807) : Ct Try.prog 116 [kI n] (kI (n.natAbs : Int)) := by
  refine Ct.mk Try.func116 rfl Try.ntmps116 rfl (fun w J => ?_)
  refine Tr.seq ?_
  refine Tr.rg ?_
  refine TrL.op (ok_assign rfl (fun _ => rfl)) rfl rfl ?_
  refine TrL.fin ?_
  refine End.nxt ?_
  refine Tr.seq ?_
  refine Tr.rg ?_
  refine TrL.op (ok_move rfl (fun _ => rfl)) rfl rfl ?_
  refine TrL.op (ok_move rfl (fun _ => rfl)) rfl rfl ?_
  refine TrL.op (ok_neg rfl (fun _ => rfl) (fun _ => by omega)) rfl rfl ?_
  refine TrL.op (ok_max rfl (fun _ => rfl) rfl (fun _ => rfl)) rfl rfl ?_
  refine TrL.op (ok_assign rfl (fun _ => rfl)) rfl rfl ?_
  refine TrL.fin ?_
  refine End.nxt ?_
  refine Tr.ret ?_
  exact Rts.res1 (fn := Try.f116) rfl (.i rfl (by split <;> omega) <| .nil)

set_option maxRecDepth 100000 in
theorem ct_ogcd (a b : Int) (ha : -9223372036854775807 ≤ a ∧ a ≤ 9223372036854775807) (hb : -9223372036854775807 ≤ b ∧ b ≤ 9223372036854775807) : Ct Try.prog 74 [kI a, kI b] (kI (Int.gcd a b : Int)) := by
  refine Ct.mk Try.func74 rfl Try.ntmps74 rfl (fun w J => ?_)
  refine Tr.seq ?_
  refine Tr.rg ?_
  refine TrL.op (ok_assign rfl (fun _ => rfl)) rfl rfl ?_
  refine TrL.fin ?_
  refine End.nxt ?_
  refine Tr.seq ?_
  refine Tr.rg ?_
  refine TrL.op (ok_move rfl (fun _ => rfl)) rfl rfl ?_
  refine TrL.op (ok_call (fun hp => ct_osize _ (by omega)) (.a rfl (fun _ => rfl) <| .nil)) rfl rfl ?_
  refine TrL.op (ok_move rfl (fun _ => rfl)) rfl rfl ?_
  refine TrL.op (ok_call (fun hp => ct_osize _ (by omega)) (.a rfl (fun _ => rfl) <| .nil)) rfl rfl ?_
  refine TrL.op (ok_assign rfl (fun _ => rfl)) rfl rfl ?_
  refine TrL.op (ok_assign rfl (fun _ => rfl)) rfl rfl ?_
  refine TrL.fin ?_
  refine End.nxt ?_
  refine Tr.for (σ := Nat × Nat) [] [] (fun (x, y) => [⟨0, true, [], kI (x : Int)⟩, ⟨1, true, [], kI (y : Int)⟩]) (fun (x, y) => []) (fun (x, y) => Nat.gcd x y = Int.gcd a b) (fun (x, y) => x = Int.gcd a b) (fun (x, y) => y) ((a.natAbs, b.natAbs)) rfl (Ent.mk (.i rfl (by first | rfl | omega | (simp; done) | (simp; omega) | assumption) <| .i rfl (by first | rfl | omega | (simp; done) | (simp; omega) | assumption) <| .nil) (.nil) rfl) ?_ ?_
  · rintro ⟨x, y⟩ hR0
    refine Tr.norm (S' := [⟨0, true, _, _⟩, ⟨1, true, _, _⟩]) (M' := []) rfl rfl ?_
    refine Tr.seq ?_
    refine Tr.seq ?_
    refine Tr.rg ?_
    refine TrL.op (ok_move rfl (fun _ => rfl)) rfl rfl ?_
    refine TrL.op (ok_gtr rfl (fun _ => rfl) rfl (fun _ => rfl)) rfl rfl ?_
    refine TrL.fin ?_
    refine End.nxt ?_
    refine Tr.cnd rfl ?_ ?_
    · intro h2
      replace h2 := of_decide_eq_true h2
      refine Tr.skip ?_
      refine End.nxt ?_
      refine Tr.blk ?_
      refine Tr.draw 5 mixed (by kernel_rfl) ?_
      refine RunD.op (ok_move rfl (fun _ => rfl)) rfl rfl ?_
      refine RunD.op (ok_move rfl (fun _ => rfl)) rfl rfl ?_
      refine RunD.op (ok_move rfl (fun _ => rfl)) rfl rfl ?_
      refine RunD.op (ok_remN x y rfl (fun _ => rfl) rfl (fun _ => rfl) (fun _ => by omega)) rfl rfl ?_
      refine RunD.op (ok_assign rfl (fun _ => rfl)) rfl rfl ?_
      refine RunD.z ?_
      refine TrL.op (ok_assign rfl (fun _ => rfl)) rfl rfl ?_
      refine TrL.fin ?_
      refine End.blk ?_
      exact End.lp ((y, x % y)) ((gcd_sw x y).trans hR0) (Nat.mod_lt _ (by omega)) (Ent.mk (.i rfl (by first | rfl | omega | (simp; done) | (simp; omega) | assumption) <| .i rfl (by first | rfl | omega | (simp; done) | (simp; omega) | assumption) <| .nil) (.nil) rfl)
    · intro h2
      replace h2 := Int.not_lt.1 (of_decide_eq_false h2)
      refine Tr.exit ?_
      refine Exs.thn ?_
      refine Exs.thn ?_
      refine Exs.here ?_
      exact End.cut ((x, y)) (by (obtain rfl : y = 0 := by omega); exact (Nat.gcd_zero_right x).symm.trans hR0) (Ent.mk (.i rfl (by first | rfl | omega | (simp; done) | (simp; omega) | assumption) <| .i rfl (by first | rfl | omega | (simp; done) | (simp; omega) | assumption) <| .nil) (.nil) rfl)
  · rintro ⟨x, y⟩ hE0
    refine Tr.norm (S' := [⟨0, true, _, _⟩, ⟨1, true, _, _⟩]) (M' := []) rfl rfl ?_
    refine Tr.seq ?_
    refine Tr.rg ?_
    refine TrL.op (ok_move rfl (fun _ => rfl)) rfl rfl ?_
    refine TrL.op (ok_assign rfl (fun _ => rfl)) rfl rfl ?_
    refine TrL.fin ?_
    refine End.nxt ?_
    refine Tr.ret ?_
    exact Rts.res1 (fn := Try.f74) rfl (.i rfl (by rw [hE0]) <| .nil)

set_option maxRecDepth 100000 in
theorem ct_ofloor (a b : Int) (hb : b ≠ 0) (ha : -1000000 ≤ a ∧ a ≤ 1000000) : Ct Try.prog 76 [kI a, kI b] (kI (flo a b)) := by
  have hq : (a.tdiv b).natAbs ≤ a.natAbs := (by rw [Int.natAbs_tdiv]; exact Nat.div_le_self _ _)
  refine Ct.mk Try.func76 rfl Try.ntmps76 rfl (fun w J => ?_)
  refine Tr.seq ?_
  refine Tr.rg ?_
  refine TrL.op (ok_assign rfl (fun _ => rfl)) rfl rfl ?_
  refine TrL.fin ?_
  refine End.nxt ?_
  refine Tr.seq ?_
  refine Tr.rg ?_
  refine TrL.op (ok_move rfl (fun _ => rfl)) rfl rfl ?_
  refine TrL.op (ok_move rfl (fun _ => rfl)) rfl rfl ?_
  refine TrL.op (ok_quo rfl (fun _ => rfl) rfl (fun _ => rfl) (fun _ => by omega)) rfl rfl ?_
  refine TrL.op (ok_assign rfl (fun _ => rfl)) rfl rfl ?_
  refine TrL.fin ?_
  refine End.nxt ?_
  refine Tr.seq ?_
  refine Tr.seq ?_
  refine Tr.rg ?_
  refine TrL.op (ok_move rfl (fun _ => rfl)) rfl rfl ?_
  refine TrL.op (ok_move rfl (fun _ => rfl)) rfl rfl ?_
  refine TrL.op (ok_rem rfl (fun _ => rfl) rfl (fun _ => rfl) (fun _ => by omega)) rfl rfl ?_
  refine TrL.op (ok_neq rfl (fun _ => rfl) rfl (fun _ => rfl)) rfl rfl ?_
  refine TrL.op (ok_move rfl (fun _ => rfl)) rfl rfl ?_
  refine TrL.gd rfl rfl rfl (ok_move rfl (fun _ => rfl)) rfl rfl ?_
  refine TrL.gd rfl rfl rfl (ok_lss rfl id rfl (fun _ => rfl)) rfl rfl ?_
  refine TrL.gd rfl rfl rfl (ok_move rfl (fun _ => rfl)) rfl rfl ?_
  refine TrL.gd rfl rfl rfl (ok_lss rfl id rfl (fun _ => rfl)) rfl rfl ?_
  refine TrL.gd rfl rfl rfl (ok_neqB rfl id rfl id) rfl rfl ?_
  refine TrL.op (ok_and rfl (fun _ => rfl) rfl (fun hp h => gdT2 ((fun _ => rfl) hp) h)) rfl rfl ?_
  refine TrL.fin ?_
  refine End.nxt ?_
  refine Tr.cnd rfl ?_ ?_
  · intro h2
    refine Tr.rg ?_
    refine TrL.op (ok_move rfl (fun _ => rfl)) rfl rfl ?_
    refine TrL.op (ok_sub rfl (fun _ => rfl) rfl (fun _ => rfl) (fun _ => by omega)) rfl rfl ?_
    refine TrL.op (ok_assign rfl (fun _ => rfl)) rfl rfl ?_
    refine TrL.fin ?_
    refine End.nxt ?_
    refine Tr.seq ?_
    refine Tr.rg ?_
    refine TrL.op (ok_move rfl (fun _ => rfl)) rfl rfl ?_
    refine TrL.op (ok_assign rfl (fun _ => rfl)) rfl rfl ?_
    refine TrL.fin ?_
    refine End.nxt ?_
    refine Tr.ret ?_
    exact Rts.res1 (fn := Try.f76) rfl (.i rfl (by rw [flo_c, if_pos h2]) <| .nil)
  · intro h2
    refine Tr.skip ?_
    refine End.nxt ?_
    refine Tr.seq ?_
    refine Tr.rg ?_
    refine TrL.op (ok_move rfl (fun _ => rfl)) rfl rfl ?_
    refine TrL.op (ok_assign rfl (fun _ => rfl)) rfl rfl ?_
    refine TrL.fin ?_
    refine End.nxt ?_
    refine Tr.ret ?_
    exact Rts.res1 (fn := Try.f76) rfl (.i rfl (by rw [flo_c, if_neg (by rw [h2]; simp)]) <| .nil)

set_option maxRecDepth 100000 in
theorem ct_othen (n : Nat) (p q : List Int) (k : Int) (P : Perm p n) (Q : Perm q n) (h0 : 0 < n) (hn : n ≤ 60) (hk : -1000000 ≤ k ∧ k ≤ 1000000) : Ct Try.prog 77 [kRd (eL eI) p, kRd (eL eI) q, kI k] (kRd (eL eI) (thenK p q k)) := by
  have hpl := P.ln
  have hql := Q.ln
  have D := dirL_perm Q k
  refine Ct.mk Try.func77 rfl Try.ntmps77 rfl (fun w J => ?_)
  refine Tr.seq ?_
  refine Tr.rg ?_
  refine TrL.op (ok_assign rfl (fun _ => rfl)) rfl rfl ?_
  refine TrL.fin ?_
  refine End.nxt ?_
  refine Tr.meet2 (σ := Unit) [⟨0, true, _, _⟩] [] (.k rfl rfl <| .nil) (.nil) (fun _ => [⟨1, true, [], kRd (eL eI) (dirL q k)⟩, ⟨2, true, [], kI (k.natAbs : Int)⟩]) (fun _ => []) (fun _ => True) ?_ ?_
  · skip
    refine Tr.seq ?_
    refine Tr.rg ?_
    refine TrL.op (ok_move rfl (fun _ => rfl)) rfl rfl ?_
    refine TrL.op (ok_lss rfl (fun _ => rfl) rfl (fun _ => rfl)) rfl rfl ?_
    refine TrL.fin ?_
    refine End.nxt ?_
    refine Tr.cnd rfl ?_ ?_
    · intro h1
      replace h1 := of_decide_eq_true h1
      refine Tr.rg ?_
      refine TrL.op (ok_move rfl (fun _ => rfl)) rfl rfl ?_
      refine TrL.op (ok_call (fun hp => ct_oinv _ (by omega) (by rw [hql]; exact Q.rg)) (.a rfl (fun _ => rfl) <| .nil)) rfl rfl ?_
      refine TrL.op (ok_move rfl (fun _ => rfl)) rfl rfl ?_
      refine TrL.op (ok_neg rfl (fun _ => rfl) (fun _ => by omega)) rfl rfl ?_
      refine TrL.op (ok_assign rfl (fun _ => rfl)) rfl rfl ?_
      refine TrL.op (ok_assign rfl (fun _ => rfl)) rfl rfl ?_
      refine TrL.fin ?_
      exact End.cut (()) (by first | rfl | omega | (simp; done) | (simp; omega) | assumption) (Ent.mk (.r rfl (by unfold dirL; rw [if_pos h1]) <| .i rfl (by first | rfl | omega | (simp; done) | (simp; omega) | assumption) <| .k rfl rfl <| .nil) (.nil) rfl)
    · intro h1
      replace h1 := Int.not_lt.1 (of_decide_eq_false h1)
      refine Tr.skip ?_
      exact End.cut (()) (by first | rfl | omega | (simp; done) | (simp; omega) | assumption) (Ent.mk (.r rfl (by unfold dirL; rw [if_neg (by omega)]) <| .i rfl (by first | rfl | omega | (simp; done) | (simp; omega) | assumption) <| .k rfl rfl <| .nil) (.nil) rfl)
  · intro _ hM
    refine Tr.norm (S' := [⟨1, true, _, _⟩, ⟨2, true, _, _⟩, ⟨0, true, _, _⟩]) (M' := []) rfl rfl ?_
    refine Tr.seq ?_
    refine Tr.rg ?_
    refine TrL.op (ok_move rfl (fun _ => rfl)) rfl rfl ?_
    refine TrL.new (ok_callN 17 (fun hp => ct_cloneN _ (by omega) (by omega)) (.a rfl (fun _ => rfl) <| .nil)) rfl rfl rfl rfl ?_
    refine TrL.op (ok_assign rfl (fun _ => rfl)) rfl rfl ?_
    refine TrL.fin ?_
    refine End.nxt ?_
    refine Tr.seq ?_
    refine Tr.seq ?_
    refine Tr.rg ?_
    refine TrL.op (ok_move rfl (fun _ => rfl)) rfl rfl ?_
    refine TrL.op (ok_move rfl (fun _ => rfl)) rfl rfl ?_
    refine TrL.fin ?_
    refine End.nxt ?_
    refine Tr.for1 (σ := Nat) [⟨1, true, _, _⟩, ⟨7, true, _, _⟩, ⟨18, true, _, _⟩] [] (fun m => [⟨19, true, [], kI (m : Int)⟩]) (fun m => [⟨17, [], cArr false 3 eI (thenN p (dirL q k) m) p.length⟩]) (fun m => m ≤ k.natAbs) (fun m => m = k.natAbs) (fun m => k.natAbs - m) (0) (Nat.zero_le _) (Ent.mk (.i rfl (by first | rfl | omega | (simp; done) | (simp; omega) | assumption) <| .k rfl rfl <| .k rfl rfl <| .k rfl rfl <| .nil) (.a (by rfl) (by first | rfl | omega | (simp; done) | (simp; omega) | assumption) <| .nil) rfl) ?_ ?_
    · intro m hR0
      refine Tr.norm (S' := [⟨19, true, _, _⟩, ⟨1, true, _, _⟩, ⟨7, true, _, _⟩, ⟨18, true, _, _⟩]) (M' := [⟨17, _, _⟩]) rfl rfl ?_
      have PT := thenN_perm P D m
      have hTl := PT.ln
      refine Tr.seq ?_
      refine Tr.rg ?_
      refine TrL.op (ok_lss rfl (fun _ => rfl) rfl (fun _ => rfl)) rfl rfl ?_
      refine TrL.fin ?_
      refine End.nxt ?_
      refine Tr.seq ?_
      refine Tr.cnd rfl ?_ ?_
      · intro h5
        replace h5 := of_decide_eq_true h5
        refine Tr.skip ?_
        refine End.nxt ?_
        refine Tr.seq ?_
        refine Tr.blk ?_
        refine Tr.seq ?_
        refine Tr.rg ?_
        refine TrL.op (ok_move rfl (fun _ => rfl)) rfl rfl ?_
        refine TrL.op (ok_lenO rfl (fun _ => rfl)) rfl rfl ?_
        refine TrL.op (ok_move rfl (fun _ => rfl)) rfl rfl ?_
        refine TrL.fin ?_
        refine End.nxt ?_
        refine Tr.for1 (σ := Nat) [⟨1, true, _, _⟩, ⟨7, true, _, _⟩, ⟨18, true, _, _⟩, ⟨19, true, _, _⟩, ⟨21, true, _, _⟩, ⟨22, true, _, _⟩] [] (fun i => [⟨23, true, [], kI (i : Int)⟩]) (fun i => [⟨17, [], cArr false 3 eI (thenP (thenN p (dirL q k) m) (dirL q k) i) p.length⟩]) (fun i => i ≤ p.length) (fun i => i = p.length) (fun i => p.length - i) (0) (Nat.zero_le _) (Ent.mk (.i rfl (by first | rfl | omega | (simp; done) | (simp; omega) | assumption) <| .k rfl rfl <| .k rfl rfl <| .k rfl rfl <| .k rfl rfl <| .k rfl rfl <| .k rfl rfl <| .nil) (.a thenP_zero.symm (by first | rfl | omega | (simp; done) | (simp; omega) | assumption) <| .nil) rfl) ?_ ?_
        · intro i hR1
          refine Tr.norm (S' := [⟨23, true, _, _⟩, ⟨1, true, _, _⟩, ⟨7, true, _, _⟩, ⟨18, true, _, _⟩, ⟨19, true, _, _⟩, ⟨21, true, _, _⟩, ⟨22, true, _, _⟩]) (M' := [⟨17, _, _⟩]) rfl rfl ?_
          have hPl := thenP_len (p := (thenN p (dirL q k) m)) (q := dirL q k) (i := i)
          have hat := fun h => thenP_at (p := (thenN p (dirL q k) m)) (q := dirL q k) (i := i) h
          have hrg := fun h => PT.rg i h
          have hDl := D.ln
          refine Tr.seq ?_
          refine Tr.rg ?_
          refine TrL.op (ok_lss rfl (fun _ => rfl) rfl (fun _ => rfl)) rfl rfl ?_
          refine TrL.fin ?_
          refine End.nxt ?_
          refine Tr.seq ?_
          refine Tr.cnd rfl ?_ ?_
          · intro h7
            replace h7 := of_decide_eq_true h7
            refine Tr.skip ?_
            refine End.nxt ?_
            refine Tr.seq ?_
            refine Tr.blk ?_
            refine Tr.seq ?_
            refine Tr.rg ?_
            have hat1 := hat (by omega)
            have hrg1 := hrg (by omega)
            refine TrL.op (ok_move rfl (fun _ => rfl)) rfl rfl ?_
            first | refine TrL.op (ok_idxEN rfl (fun _ => rfl) rfl (fun _ => rfl) (fun _ => by omega)) rfl rfl ?_ | refine TrL.op (ok_idxE rfl (fun _ => rfl) rfl (fun _ => rfl) (fun _ => by omega)) rfl rfl ?_
            refine TrL.op (ok_ldE rfl (fun _ => rfl) rfl rfl rfl) rfl rfl ?_
            refine TrL.op (ok_assign rfl (fun _ => rfl)) rfl rfl ?_
            refine TrL.op (ok_assign rfl (fun _ => rfl)) rfl rfl ?_
            refine TrL.fin ?_
            refine End.nxt ?_
            refine Tr.rg ?_
            refine TrL.op (ok_move rfl (fun _ => rfl)) rfl rfl ?_
            refine TrL.op (ok_move rfl (fun _ => rfl)) rfl rfl ?_
            refine TrL.op (ok_move rfl (fun _ => rfl)) rfl rfl ?_
            refine TrL.op (ok_move rfl (fun _ => rfl)) rfl rfl ?_
            first | refine TrL.op (ok_idxN rfl (fun _ => rfl) rfl (fun _ => rfl) rfl (fun _ => by omega)) rfl rfl ?_ | refine TrL.op (ok_idxP rfl (fun _ => rfl) rfl (fun _ => rfl) rfl (fun _ => by omega)) rfl rfl ?_
            refine TrL.op (ok_ldP rfl (fun _ => rfl) rfl) rfl rfl ?_
            first | refine TrL.op (ok_idxEN rfl (fun _ => rfl) rfl (fun _ => rfl) (fun _ => by omega)) rfl rfl ?_ | refine TrL.op (ok_idxE rfl (fun _ => rfl) rfl (fun _ => rfl) (fun _ => by omega)) rfl rfl ?_
            refine TrL.stE rfl rfl rfl rfl rfl ?_
            refine TrL.fin ?_
            refine End.blk ?_
            refine End.nxt ?_
            refine Tr.rg ?_
            refine TrL.op (ok_add rfl (fun _ => rfl) rfl (fun _ => rfl) (fun _ => by omega)) rfl rfl ?_
            refine TrL.op (ok_move rfl (fun _ => rfl)) rfl rfl ?_
            refine TrL.fin ?_
            exact End.lp (i + 1) (by first | rfl | omega | (simp; done) | (simp; omega) | assumption) (by omega) (Ent.mk (.i rfl (by first | rfl | omega | (simp; done) | (simp; omega) | assumption) <| .k rfl rfl <| .k rfl rfl <| .k rfl rfl <| .k rfl rfl <| .k rfl rfl <| .k rfl rfl <| .nil) (.a (by rw [hat1]; exact thenP_succ) (by first | rfl | omega | (simp; done) | (simp; omega) | assumption) <| .nil) rfl)
          · intro h7
            replace h7 := Int.not_lt.1 (of_decide_eq_false h7)
            refine Tr.exit ?_
            refine Exs.thn ?_
            refine Exs.thn ?_
            refine Exs.here ?_
            exact End.cut (i) (by omega) (Ent.mk (.i rfl (by first | rfl | omega | (simp; done) | (simp; omega) | assumption) <| .k rfl rfl <| .k rfl rfl <| .k rfl rfl <| .k rfl rfl <| .k rfl rfl <| .k rfl rfl <| .nil) (.a (by first | rfl | omega | (simp; done) | (simp; omega) | assumption) (by first | rfl | omega | (simp; done) | (simp; omega) | assumption) <| .nil) rfl)
        · rintro _ rfl
          refine End.norm (S' := [⟨23, true, _, _⟩, ⟨1, true, _, _⟩, ⟨7, true, _, _⟩, ⟨18, true, _, _⟩, ⟨19, true, _, _⟩, ⟨21, true, _, _⟩, ⟨22, true, _, _⟩]) (M' := [⟨17, _, _⟩]) rfl rfl ?_
          refine End.blk ?_
          refine End.nxt ?_
          refine Tr.rg ?_
          refine TrL.op (ok_add rfl (fun _ => rfl) rfl (fun _ => rfl) (fun _ => by omega)) rfl rfl ?_
          refine TrL.op (ok_move rfl (fun _ => rfl)) rfl rfl ?_
          refine TrL.fin ?_
          exact End.lp (m + 1) (by first | rfl | omega | (simp; done) | (simp; omega) | assumption) (by omega) (Ent.mk (.i rfl (by first | rfl | omega | (simp; done) | (simp; omega) | assumption) <| .k rfl rfl <| .k rfl rfl <| .k rfl rfl <| .nil) (.a (thenP_all (by omega)) (by rfl) <| .nil) rfl)
      · intro h5
        replace h5 := Int.not_lt.1 (of_decide_eq_false h5)
        refine Tr.exit ?_
        refine Exs.thn ?_
        refine Exs.thn ?_
        refine Exs.here ?_
        exact End.cut (m) (by omega) (Ent.mk (.i rfl (by first | rfl | omega | (simp; done) | (simp; omega) | assumption) <| .k rfl rfl <| .k rfl rfl <| .k rfl rfl <| .nil) (.a (by first | rfl | omega | (simp; done) | (simp; omega) | assumption) (by first | rfl | omega | (simp; done) | (simp; omega) | assumption) <| .nil) rfl)
    · rintro _ rfl
      refine End.norm (S' := [⟨19, true, _, _⟩, ⟨1, true, _, _⟩, ⟨7, true, _, _⟩, ⟨18, true, _, _⟩]) (M' := [⟨17, _, _⟩]) rfl rfl ?_
      refine End.nxt ?_
      refine Tr.seq ?_
      refine Tr.rg ?_
      refine TrL.op (ok_move rfl (fun _ => rfl)) rfl rfl ?_
      refine TrL.op (ok_assign rfl (fun _ => rfl)) rfl rfl ?_
      refine TrL.fin ?_
      refine End.nxt ?_
      refine Tr.frz 17 [6] ⟨rfl, trivial⟩ (by simp only [lenMax]; omega) rfl ?_
      refine Tr.ret ?_
      exact Rts.res1 (fn := Try.f77) rfl (.r rfl (by rfl) <| .nil)

end Go.Fl

/- Contracts: directions, the examples. -/
namespace Go.Fl
open Go Go.Proofs


theorem nothing_eq {o : Ori} : (decide ((o.1.length : Int) = 0) && decide ((o.2.length : Int) = 0)) = decide (o = ([], [])) := by
  rw [Bool.eq_iff_iff, Bool.and_eq_true, decide_eq_true_eq, decide_eq_true_eq, decide_eq_true_eq]
  constructor
  · rintro ⟨h1, h2⟩
    exact Prod.ext (List.eq_nil_of_length_eq_zero (by omega)) (List.eq_nil_of_length_eq_zero (by omega))
  · rintro rfl; exact ⟨rfl, rfl⟩

set_option maxRecDepth 100000 in
set_option maxHeartbeats 1000000 in
theorem ct_oToward (o : Ori) (p q : Int) : Ct Try.prog 22 [kRd eO o, kI p, kI q] (kTup [kRd eO (if orE (chkO o) (dirE p q) = 0 then tw o p q else ([], [])), kI (orE (chkO o) (dirE p q))]) := by
  refine Ct.mk Try.func22 rfl Try.ntmps22 rfl (fun w J => ?_)
  refine Tr.seq ?_
  refine Tr.rg ?_
  refine TrL.new (ok_box 3 rfl (fun _ => rfl) rfl) rfl rfl rfl rfl ?_
  refine TrL.new (ok_alloc 6) rfl rfl rfl rfl ?_
  refine TrL.op (ok_assign rfl (fun _ => rfl)) rfl rfl ?_
  refine TrL.fin ?_
  refine End.nxt ?_
  refine Tr.seq ?_
  refine Tr.seq ?_
  refine Tr.rg ?_
  refine TrL.op (ok_ldBS rfl (fun _ => rfl)) rfl rfl ?_
  refine TrL.op (ok_call (fun hp => ct_oCheck _) (.s rfl (fun _ => rfl) rfl <| .nil)) rfl rfl ?_
  refine TrL.op (ok_assign rfl (fun _ => rfl)) rfl rfl ?_
  refine TrL.fin ?_
  refine End.nxt ?_
  refine Tr.seq ?_
  refine Tr.rg ?_
  refine TrL.op (ok_move rfl (fun _ => rfl)) rfl rfl ?_
  refine TrL.op (ok_neq rfl (fun _ => rfl) rfl (fun _ => rfl)) rfl rfl ?_
  refine TrL.fin ?_
  refine End.nxt ?_
  refine Tr.cnd rfl ?_ ?_
  · intro h2
    replace h2 := of_decide_eq_true h2
    refine Tr.seq ?_
    refine Tr.rg ?_
    refine TrL.op (ok_build (fun hp => .nil)) rfl rfl ?_
    refine TrL.op (ok_move rfl (fun _ => rfl)) rfl rfl ?_
    refine TrL.stB rfl rfl rfl rfl ?_
    refine TrL.op (ok_assign rfl (fun _ => rfl)) rfl rfl ?_
    refine TrL.fin ?_
    refine End.nxt ?_
    refine Tr.ret ?_
    refine Rts.thn ?_
    exact Rts.resC (fn := Try.f22) (ts := [7]) rfl rfl rfl (aggRd rfl (by rw [orE_l h2, if_neg h2])) (.i rfl (by rw [orE_l h2]) <| .nil)
  · intro h2
    replace h2 := Classical.not_not.1 (of_decide_eq_false h2)
    have v : Valid o := valid_of h2
    have hv0 := v.pos
    have hv1 := v.len
    have hv2 := v.le
    refine Tr.skip ?_
    refine End.nxt ?_
    refine Tr.seq ?_
    refine Tr.seq ?_
    refine Tr.rg ?_
    refine TrL.op (ok_move rfl (fun _ => rfl)) rfl rfl ?_
    refine TrL.op (ok_lss rfl (fun _ => rfl) rfl (fun _ => rfl)) rfl rfl ?_
    refine TrL.op (ok_move rfl (fun _ => rfl)) rfl rfl ?_
    refine TrL.gd rfl rfl rfl (ok_move rfl (fun _ => rfl)) rfl rfl ?_
    refine TrL.gd rfl rfl rfl (ok_gtr rfl id rfl (fun _ => rfl)) rfl rfl ?_
    refine TrL.op (ok_or rfl (fun _ => rfl) rfl (fun hp h => gdF2 ((fun _ => rfl) hp) h)) rfl rfl ?_
    refine TrL.op (ok_move rfl (fun _ => rfl)) rfl rfl ?_
    refine TrL.gd rfl rfl rfl (ok_move rfl (fun _ => rfl)) rfl rfl ?_
    refine TrL.gd rfl rfl rfl (ok_lss rfl id rfl (fun _ => rfl)) rfl rfl ?_
    refine TrL.op (ok_or rfl (fun _ => rfl) rfl (fun hp h => gdF2 ((fun _ => rfl) hp) h)) rfl rfl ?_
    refine TrL.op (ok_move rfl (fun _ => rfl)) rfl rfl ?_
    refine TrL.gd rfl rfl rfl (ok_move rfl (fun _ => rfl)) rfl rfl ?_
    refine TrL.gd rfl rfl rfl (ok_gtr rfl id rfl (fun _ => rfl)) rfl rfl ?_
    refine TrL.op (ok_or rfl (fun _ => rfl) rfl (fun hp h => gdF2 ((fun _ => rfl) hp) h)) rfl rfl ?_
    refine TrL.op (ok_move rfl (fun _ => rfl)) rfl rfl ?_
    refine TrL.gd rfl rfl rfl (ok_move rfl (fun _ => rfl)) rfl rfl ?_
    refine TrL.gd rfl rfl rfl (ok_move rfl (fun _ => rfl)) rfl rfl ?_
    refine TrL.gd rfl rfl rfl (ok_call (fun hp => ct_ogcd _ _ (by simp at hp; omega) (by simp at hp; omega)) (.a rfl id <| .a rfl id <| .nil)) rfl rfl ?_
    refine TrL.gd rfl rfl rfl (ok_neq rfl id rfl (fun _ => rfl)) rfl rfl ?_
    refine TrL.op (ok_or rfl (fun _ => rfl) rfl (fun hp h => gdF2 ((fun _ => rfl) hp) h)) rfl rfl ?_
    refine TrL.fin ?_
    refine End.nxt ?_
    refine Tr.cnd rfl ?_ ?_
    · intro h4
      have hd : dirE p q = 2 := by (unfold dirE; rw [if_pos]; simp at h4; omega)
      refine Tr.seq ?_
      refine Tr.rg ?_
      refine TrL.op (ok_build (fun hp => .nil)) rfl rfl ?_
      refine TrL.stB rfl rfl rfl rfl ?_
      refine TrL.op (ok_assign rfl (fun _ => rfl)) rfl rfl ?_
      refine TrL.fin ?_
      refine End.nxt ?_
      refine Tr.ret ?_
      refine Rts.thn ?_
      exact Rts.resC (fn := Try.f22) (ts := [7]) rfl rfl rfl (aggRd rfl (by rw [orE_r h2, hd]; rfl)) (.i rfl (by rw [orE_r h2, hd]) <| .nil)
    · intro h4
      have hd : dirE p q = 0 := by (unfold dirE; rw [if_neg]; simp at h4; omega)
      have hT0 := TwSt.start v hd
      refine Tr.skip ?_
      refine End.nxt ?_
      refine Tr.seq ?_
      refine Tr.draw 5 mixed (by kernel_rfl) ?_
      refine RunD.op (ok_fldO rfl (fun _ => rfl)) rfl rfl ?_
      refine RunD.op (ok_ldB rfl (fun _ => rfl) rfl) rfl rfl ?_
      refine RunD.op (ok_call (fun hp => ct_cloneI _ (by omega)) (.a rfl (fun _ => rfl) <| .nil)) rfl rfl ?_
      refine RunD.op (ok_fldO rfl (fun _ => rfl)) rfl rfl ?_
      refine RunD.op (ok_ldB rfl (fun _ => rfl) rfl) rfl rfl ?_
      refine RunD.z ?_
      refine TrL.op (ok_call (fun hp => ct_cloneI _ (by omega)) (.a rfl (fun _ => rfl) <| .nil)) rfl rfl ?_
      refine TrL.op (ok_assign rfl (fun _ => rfl)) rfl rfl ?_
      refine TrL.op (ok_assign rfl (fun _ => rfl)) rfl rfl ?_
      refine TrL.fin ?_
      refine End.nxt ?_
      refine Tr.for (σ := Ori × Int × Int) [⟨6, true, _, _⟩] [⟨6, _, _⟩] (fun s => [⟨1, true, [], kI s.2.1⟩, ⟨2, true, [], kI s.2.2⟩, ⟨9, true, [], kRd (eL eI) s.1.1⟩, ⟨10, true, [], kRd (eL eI) s.1.2⟩]) (fun s => []) (fun s => TwSt o p q s.1 s.2.1 s.2.2) (fun s => s.2.2 = 0 ∧ TwSt o p q s.1 s.2.1 s.2.2) (fun s => s.2.2.natAbs) ((o, p, q)) hT0 (Ent.mk (.i rfl (by first | rfl | omega | (simp; done) | (simp; omega) | assumption) <| .i rfl (by first | rfl | omega | (simp; done) | (simp; omega) | assumption) <| .r rfl (by first | rfl | omega | (simp; done) | (simp; omega) | assumption) <| .r rfl (by first | rfl | omega | (simp; done) | (simp; omega) | assumption) <| .k rfl rfl <| .nil) (.k rfl <| .nil) rfl) ?_ ?_
      · intro s hT
        refine Tr.norm (S' := [⟨1, true, _, _⟩, ⟨2, true, _, _⟩, ⟨9, true, _, _⟩, ⟨10, true, _, _⟩, ⟨6, true, _, _⟩]) (M' := [⟨6, _, _⟩]) rfl rfl ?_
        have hpR : Perm s.1.1 o.1.length := (by have := hT.v.pR; rwa [hT.len] at this)
        have hpU : Perm s.1.2 o.1.length := (by have := hT.v.pU; rwa [hT.len] at this)
        have hpb := hT.pb
        have hqb := hT.qb
        have hfl := fun h => flo_less s.2.1 (b := s.2.2) h
        refine Tr.seq ?_
        refine Tr.seq ?_
        refine Tr.rg ?_
        refine TrL.op (ok_move rfl (fun _ => rfl)) rfl rfl ?_
        refine TrL.op (ok_neq rfl (fun _ => rfl) rfl (fun _ => rfl)) rfl rfl ?_
        refine TrL.fin ?_
        refine End.nxt ?_
        refine Tr.cnd rfl ?_ ?_
        · intro h7
          replace h7 := of_decide_eq_true h7
          refine Tr.skip ?_
          refine End.nxt ?_
          refine Tr.blk ?_
          refine Tr.seq ?_
          refine Tr.rg ?_
          refine TrL.op (ok_move rfl (fun _ => rfl)) rfl rfl ?_
          refine TrL.op (ok_move rfl (fun _ => rfl)) rfl rfl ?_
          refine TrL.op (ok_call (fun hp => ct_ofloor _ _ h7 (by have := hT.pb; omega)) (.a rfl (fun _ => rfl) <| .a rfl (fun _ => rfl) <| .nil)) rfl rfl ?_
          refine TrL.op (ok_assign rfl (fun _ => rfl)) rfl rfl ?_
          refine TrL.fin ?_
          refine End.nxt ?_
          refine Tr.seq ?_
          refine Tr.rg ?_
          refine TrL.op (ok_move rfl (fun _ => rfl)) rfl rfl ?_
          refine TrL.op (ok_move rfl (fun _ => rfl)) rfl rfl ?_
          refine TrL.op (ok_move rfl (fun _ => rfl)) rfl rfl ?_
          refine TrL.op (ok_call (fun hp => ct_othen o.1.length _ _ _ hpU hpR hv0 hv2 (by have := flo_bd (a := s.2.1) h7; have := hT.pb; omega)) (.a rfl (fun _ => rfl) <| .a rfl (fun _ => rfl) <| .a rfl (fun _ => rfl) <| .nil)) rfl rfl ?_
          refine TrL.op (ok_assign rfl (fun _ => rfl)) rfl rfl ?_
          refine TrL.fin ?_
          refine End.nxt ?_
          refine Tr.seq ?_
          refine Tr.rg ?_
          refine TrL.op (ok_move rfl (fun _ => rfl)) rfl rfl ?_
          refine TrL.op (ok_move rfl (fun _ => rfl)) rfl rfl ?_
          refine TrL.op (ok_call (fun hp => ct_oinv _ (by have := hpR.ln; omega) (by rw [hpR.ln]; exact hpR.rg)) (.a rfl (fun _ => rfl) <| .nil)) rfl rfl ?_
          refine TrL.op (ok_assign rfl (fun _ => rfl)) rfl rfl ?_
          refine TrL.op (ok_assign rfl (fun _ => rfl)) rfl rfl ?_
          refine TrL.fin ?_
          refine End.nxt ?_
          refine Tr.rg ?_
          have hf7 := hfl h7
          have hb7 := flo_bd (a := s.2.1) h7
          refine TrL.op (ok_move rfl (fun _ => rfl)) rfl rfl ?_
          refine TrL.op (ok_move rfl (fun _ => rfl)) rfl rfl ?_
          refine TrL.op (ok_move rfl (fun _ => rfl)) rfl rfl ?_
          refine TrL.op (ok_mul rfl (fun _ => rfl) rfl (fun _ => rfl) (fun _ => by omega)) rfl rfl ?_
          refine TrL.op (ok_move rfl (fun _ => rfl)) rfl rfl ?_
          refine TrL.op (ok_sub rfl (fun _ => rfl) rfl (fun _ => rfl) (fun _ => by omega)) rfl rfl ?_
          refine TrL.op (ok_assign rfl (fun _ => rfl)) rfl rfl ?_
          refine TrL.op (ok_assign rfl (fun _ => rfl)) rfl rfl ?_
          refine TrL.fin ?_
          refine End.blk ?_
          exact End.lp ((twO s.1 (flo s.2.1 s.2.2), s.2.2, flo s.2.1 s.2.2 * s.2.2 - s.2.1)) (hT.next h7) (hfl h7) (Ent.mk (.i rfl (by first | rfl | omega | (simp; done) | (simp; omega) | assumption) <| .i rfl (by first | rfl | omega | (simp; done) | (simp; omega) | assumption) <| .r rfl (by first | rfl | omega | (simp; done) | (simp; omega) | assumption) <| .r rfl (by first | rfl | omega | (simp; done) | (simp; omega) | assumption) <| .k rfl rfl <| .nil) (.k rfl <| .nil) rfl)
        · intro h7
          replace h7 := Classical.not_not.1 (of_decide_eq_false h7)
          refine Tr.exit ?_
          refine Exs.thn ?_
          refine Exs.thn ?_
          refine Exs.here ?_
          exact End.cut (s) ⟨h7, hT⟩ (Ent.mk (.i rfl (by first | rfl | omega | (simp; done) | (simp; omega) | assumption) <| .i rfl (by first | rfl | omega | (simp; done) | (simp; omega) | assumption) <| .r rfl (by first | rfl | omega | (simp; done) | (simp; omega) | assumption) <| .r rfl (by first | rfl | omega | (simp; done) | (simp; omega) | assumption) <| .k rfl rfl <| .nil) (.k rfl <| .nil) rfl)
      · rintro s ⟨hz, hT⟩
        refine Tr.norm (S' := [⟨1, true, _, _⟩, ⟨2, true, _, _⟩, ⟨9, true, _, _⟩, ⟨10, true, _, _⟩, ⟨6, true, _, _⟩]) (M' := [⟨6, _, _⟩]) rfl rfl ?_
        have hpR : Perm s.1.1 o.1.length := (by have := hT.v.pR; rwa [hT.len] at this)
        have hpU : Perm s.1.2 o.1.length := (by have := hT.v.pU; rwa [hT.len] at this)
        rw [hz] at hT
        obtain ⟨hp1, htw⟩ := hT.fin
        refine Tr.seq ?_
        refine Tr.seq ?_
        refine Tr.rg ?_
        refine TrL.op (ok_move rfl (fun _ => rfl)) rfl rfl ?_
        refine TrL.op (ok_eql rfl (fun _ => rfl) rfl (fun _ => rfl)) rfl rfl ?_
        refine TrL.fin ?_
        refine End.nxt ?_
        refine Tr.cnd rfl ?_ ?_
        · intro h12
          replace h12 := of_decide_eq_true h12
          refine Tr.rg ?_
          refine TrL.op (ok_move rfl (fun _ => rfl)) rfl rfl ?_
          refine TrL.op (ok_call (fun hp => ct_oinv _ (by have := hpR.ln; omega) (by rw [hpR.ln]; exact hpR.rg)) (.a rfl (fun _ => rfl) <| .nil)) rfl rfl ?_
          refine TrL.op (ok_move rfl (fun _ => rfl)) rfl rfl ?_
          refine TrL.op (ok_call (fun hp => ct_oinv _ (by have := hpU.ln; omega) (by rw [hpU.ln]; exact hpU.rg)) (.a rfl (fun _ => rfl) <| .nil)) rfl rfl ?_
          refine TrL.op (ok_assign rfl (fun _ => rfl)) rfl rfl ?_
          refine TrL.op (ok_assign rfl (fun _ => rfl)) rfl rfl ?_
          refine TrL.fin ?_
          refine End.nxt ?_
          refine Tr.seq ?_
          refine Tr.rg ?_
          refine TrL.op (ok_move rfl (fun _ => rfl)) rfl rfl ?_
          refine TrL.op (ok_move rfl (fun _ => rfl)) rfl rfl ?_
          refine TrL.op (ok_build (fun hp => .cons rfl rfl rfl <| .cons rfl rfl rfl <| .nil)) rfl rfl ?_
          refine TrL.stB rfl rfl rfl rfl ?_
          refine TrL.op (ok_assign rfl (fun _ => rfl)) rfl rfl ?_
          refine TrL.fin ?_
          refine End.nxt ?_
          refine Tr.ret ?_
          exact Rts.resC (fn := Try.f22) (ts := [7]) rfl rfl rfl (aggRd rfl (by rw [orE_r h2, hd, if_pos rfl, htw, if_pos (by omega)]; rfl)) (.i rfl (by rw [orE_r h2, hd]) <| .nil)
        · intro h12
          replace h12 := of_decide_eq_false h12
          refine Tr.skip ?_
          refine End.nxt ?_
          refine Tr.seq ?_
          refine Tr.rg ?_
          refine TrL.op (ok_move rfl (fun _ => rfl)) rfl rfl ?_
          refine TrL.op (ok_move rfl (fun _ => rfl)) rfl rfl ?_
          refine TrL.op (ok_build (fun hp => .cons rfl rfl rfl <| .cons rfl rfl rfl <| .nil)) rfl rfl ?_
          refine TrL.stB rfl rfl rfl rfl ?_
          refine TrL.op (ok_assign rfl (fun _ => rfl)) rfl rfl ?_
          refine TrL.fin ?_
          refine End.nxt ?_
          refine Tr.ret ?_
          exact Rts.resC (fn := Try.f22) (ts := [7]) rfl rfl rfl (aggRd rfl (by rw [orE_r h2, hd, if_pos rfl, htw, if_neg (by omega)])) (.i rfl (by rw [orE_r h2, hd]) <| .nil)

set_option maxRecDepth 100000 in
theorem ct_ell  : Ct Try.prog 65 [] (kRd eO (([1, 0, 2], [2, 1, 0]) : Ori)) := by
  refine Ct.mk Try.func65 rfl Try.ntmps65 rfl (fun w J => ?_)
  refine Tr.seq ?_
  refine Tr.rg ?_
  refine TrL.new (ok_alloc 0) rfl rfl rfl rfl ?_
  refine TrL.fin ?_
  refine End.nxt ?_
  refine Tr.seq ?_
  refine Tr.rg ?_
  refine TrL.new (ok_bsl eI 1 (fun hp => .cons rfl <| .cons rfl <| .cons rfl <| .nil) rfl rfl rfl rfl) rfl rfl rfl rfl ?_
  refine TrL.new (ok_bsl eI 2 (fun hp => .cons rfl <| .cons rfl <| .cons rfl <| .nil) rfl rfl rfl rfl) rfl rfl rfl rfl ?_
  refine TrL.op (ok_build (fun hp => .cons rfl rfl rfl <| .cons rfl rfl rfl <| .nil)) rfl rfl ?_
  refine TrL.stB rfl rfl rfl rfl ?_
  refine TrL.fin ?_
  refine End.nxt ?_
  refine Tr.frzC 1 0 (by simp only [lenMax]; omega) rfl rfl ?_
  refine Tr.frzC 2 0 (by simp only [lenMax]; omega) rfl rfl ?_
  refine Tr.ret ?_
  exact Rts.resC1 (fn := Try.f65) rfl rfl (aggRd rfl (by first | rfl | omega | (simp; done) | (simp; omega) | assumption))

set_option maxRecDepth 100000 in
theorem ct_awake  : Ct Try.prog 14 [] (kB true) := by
  refine Ct.mk Try.func14 rfl Try.ntmps14 rfl (fun w J => ?_)
  refine Tr.seq ?_
  refine Tr.rg ?_
  refine TrL.op (ok_assign rfl (fun _ => rfl)) rfl rfl ?_
  refine TrL.fin ?_
  refine End.nxt ?_
  refine Tr.seq ?_
  refine Tr.rg ?_
  refine TrL.op (ok_call (fun hp => ct_ell) (.nil)) rfl rfl ?_
  refine TrL.op (ok_call (fun hp => ct_oLabel _) (.a rfl (fun _ => rfl) <| .nil)) rfl rfl ?_
  refine TrL.op (ok_move rfl (fun _ => rfl)) rfl rfl ?_
  refine TrL.op (ok_ext rfl (fun _ => rfl) rfl) rfl rfl ?_
  refine TrL.op (ok_ext rfl (fun _ => rfl) rfl) rfl rfl ?_
  refine TrL.op (ok_ext rfl (fun _ => rfl) rfl) rfl rfl ?_
  refine TrL.new (ok_alloc 1) rfl rfl rfl rfl ?_
  refine TrL.stB rfl rfl rfl rfl ?_
  refine TrL.op (ok_assign rfl (fun _ => rfl)) rfl rfl ?_
  refine TrL.op (ok_assign rfl (fun _ => rfl)) rfl rfl ?_
  refine TrL.fin ?_
  refine End.nxt ?_
  refine Tr.seq ?_
  refine Tr.rg ?_
  refine TrL.op (ok_call (fun hp => ct_ell) (.nil)) rfl rfl ?_
  refine TrL.op (ok_call (fun hp => ct_oStratum _) (.a rfl (fun _ => rfl) <| .nil)) rfl rfl ?_
  refine TrL.op (ok_move rfl (fun _ => rfl)) rfl rfl ?_
  refine TrL.op (ok_ext rfl (fun _ => rfl) rfl) rfl rfl ?_
  refine TrL.op (ok_ext rfl (fun _ => rfl) rfl) rfl rfl ?_
  refine TrL.op (ok_assign rfl (fun _ => rfl)) rfl rfl ?_
  refine TrL.op (ok_assign rfl (fun _ => rfl)) rfl rfl ?_
  refine TrL.fin ?_
  refine End.nxt ?_
  refine Tr.seq ?_
  refine Tr.rg ?_
  refine TrL.op (ok_call (fun hp => ct_ell) (.nil)) rfl rfl ?_
  refine TrL.op (ok_call (fun hp => ct_oToward _ _ _) (.a rfl (fun _ => rfl) <| .a rfl (fun _ => rfl) <| .a rfl (fun _ => rfl) <| .nil)) rfl rfl ?_
  refine TrL.op (ok_move rfl (fun _ => rfl)) rfl rfl ?_
  refine TrL.op (ok_ext rfl (fun _ => rfl) rfl) rfl rfl ?_
  refine TrL.op (ok_ext rfl (fun _ => rfl) rfl) rfl rfl ?_
  refine TrL.new (ok_alloc 6) rfl rfl rfl rfl ?_
  refine TrL.stB rfl rfl rfl rfl ?_
  refine TrL.op (ok_assign rfl (fun _ => rfl)) rfl rfl ?_
  refine TrL.fin ?_
  refine End.nxt ?_
  refine Tr.seq ?_
  refine Tr.rg ?_
  refine TrL.op (ok_move rfl (fun _ => rfl)) rfl rfl ?_
  refine TrL.op (ok_eql rfl (fun _ => rfl) rfl (fun _ => rfl)) rfl rfl ?_
  refine TrL.op (ok_move rfl (fun _ => rfl)) rfl rfl ?_
  refine TrL.gd rfl rfl rfl (ok_fldO rfl (fun _ => rfl)) rfl rfl ?_
  refine TrL.gd rfl rfl rfl (ok_ldB rfl id rfl) rfl rfl ?_
  refine TrL.gd rfl rfl rfl (ok_bslJ eI (fun hp => .cons rfl <| .cons rfl <| .cons rfl <| .nil) rfl rfl rfl rfl) rfl rfl ?_
  refine TrL.gd rfl rfl rfl (ok_call (fun hp => ct_Ints _ _) (.a rfl id <| .a rfl id <| .nil)) rfl rfl ?_
  refine TrL.op (ok_and rfl (fun _ => rfl) rfl (fun hp h => gdT2 ((fun _ => rfl) hp) h)) rfl rfl ?_
  refine TrL.op (ok_move rfl (fun _ => rfl)) rfl rfl ?_
  refine TrL.gd rfl rfl rfl (ok_fldO rfl (fun _ => rfl)) rfl rfl ?_
  refine TrL.gd rfl rfl rfl (ok_ldB rfl id rfl) rfl rfl ?_
  refine TrL.gd rfl rfl rfl (ok_bslJ eI (fun hp => .cons rfl <| .cons rfl <| .cons rfl <| .nil) rfl rfl rfl rfl) rfl rfl ?_
  refine TrL.gd rfl rfl rfl (ok_call (fun hp => ct_Ints _ _) (.a rfl id <| .a rfl id <| .nil)) rfl rfl ?_
  refine TrL.op (ok_and rfl (fun _ => rfl) rfl (fun hp h => gdT2 ((fun _ => rfl) hp) h)) rfl rfl ?_
  refine TrL.op (ok_move rfl (fun _ => rfl)) rfl rfl ?_
  refine TrL.gd rfl rfl rfl (ok_move rfl (fun _ => rfl)) rfl rfl ?_
  refine TrL.gd rfl rfl rfl (ok_bslJ eI (fun hp => .cons rfl <| .cons rfl <| .cons rfl <| .nil) rfl rfl rfl rfl) rfl rfl ?_
  refine TrL.gd rfl rfl rfl (ok_call (fun hp => ct_Ints _ _) (.a rfl id <| .a rfl id <| .nil)) rfl rfl ?_
  refine TrL.op (ok_and rfl (fun _ => rfl) rfl (fun hp h => gdT2 ((fun _ => rfl) hp) h)) rfl rfl ?_
  refine TrL.op (ok_move rfl (fun _ => rfl)) rfl rfl ?_
  refine TrL.gd rfl rfl rfl (ok_move rfl (fun _ => rfl)) rfl rfl ?_
  refine TrL.gd rfl rfl rfl (ok_eql rfl id rfl (fun _ => rfl)) rfl rfl ?_
  refine TrL.op (ok_and rfl (fun _ => rfl) rfl (fun hp h => gdT2 ((fun _ => rfl) hp) h)) rfl rfl ?_
  refine TrL.op (ok_move rfl (fun _ => rfl)) rfl rfl ?_
  refine TrL.gd rfl rfl rfl (ok_move rfl (fun _ => rfl)) rfl rfl ?_
  refine TrL.gd rfl rfl rfl (ok_bslJ eI (fun hp => .cons rfl <| .nil) rfl rfl rfl rfl) rfl rfl ?_
  refine TrL.gd rfl rfl rfl (ok_call (fun hp => ct_Ints _ _) (.a rfl id <| .a rfl id <| .nil)) rfl rfl ?_
  refine TrL.op (ok_and rfl (fun _ => rfl) rfl (fun hp h => gdT2 ((fun _ => rfl) hp) h)) rfl rfl ?_
  refine TrL.op (ok_move rfl (fun _ => rfl)) rfl rfl ?_
  refine TrL.gd rfl rfl rfl (ok_move rfl (fun _ => rfl)) rfl rfl ?_
  refine TrL.gd rfl rfl rfl (ok_eql rfl id rfl (fun _ => rfl)) rfl rfl ?_
  refine TrL.op (ok_and rfl (fun _ => rfl) rfl (fun hp h => gdT2 ((fun _ => rfl) hp) h)) rfl rfl ?_
  refine TrL.op (ok_move rfl (fun _ => rfl)) rfl rfl ?_
  refine TrL.gd rfl rfl rfl (ok_fldO rfl (fun _ => rfl)) rfl rfl ?_
  refine TrL.gd rfl rfl rfl (ok_ldB rfl id rfl) rfl rfl ?_
  refine TrL.gd rfl rfl rfl (ok_bslJ eI (fun hp => .cons rfl <| .cons rfl <| .cons rfl <| .nil) rfl rfl rfl rfl) rfl rfl ?_
  refine TrL.gd rfl rfl rfl (ok_call (fun hp => ct_Ints _ _) (.a rfl id <| .a rfl id <| .nil)) rfl rfl ?_
  refine TrL.op (ok_and rfl (fun _ => rfl) rfl (fun hp h => gdT2 ((fun _ => rfl) hp) h)) rfl rfl ?_
  refine TrL.op (ok_assign rfl (fun _ => rfl)) rfl rfl ?_
  refine TrL.fin ?_
  refine End.nxt ?_
  refine Tr.ret ?_
  exact Rts.res1 (fn := Try.f14) rfl (.b rfl (by decide +kernel) <| .nil)

set_option maxRecDepth 100000 in
theorem ct_nothing (o : Ori) : Ct Try.prog 18 [kRd eO o] (kB (decide (o = ([], [])))) := by
  refine Ct.mk Try.func18 rfl Try.ntmps18 rfl (fun w J => ?_)
  refine Tr.seq ?_
  refine Tr.rg ?_
  refine TrL.new (ok_box 1 rfl (fun _ => rfl) rfl) rfl rfl rfl rfl ?_
  refine TrL.op (ok_assign rfl (fun _ => rfl)) rfl rfl ?_
  refine TrL.fin ?_
  refine End.nxt ?_
  refine Tr.seq ?_
  refine Tr.rg ?_
  refine TrL.op (ok_fldO rfl (fun _ => rfl)) rfl rfl ?_
  refine TrL.op (ok_ldB rfl (fun _ => rfl) rfl) rfl rfl ?_
  refine TrL.op (ok_lenJ rfl (fun _ => rfl)) rfl rfl ?_
  refine TrL.op (ok_eql rfl (fun _ => rfl) rfl (fun _ => rfl)) rfl rfl ?_
  refine TrL.op (ok_move rfl (fun _ => rfl)) rfl rfl ?_
  refine TrL.gd rfl rfl rfl (ok_fldO rfl (fun _ => rfl)) rfl rfl ?_
  refine TrL.gd rfl rfl rfl (ok_ldB rfl id rfl) rfl rfl ?_
  refine TrL.gd rfl rfl rfl (ok_lenJ rfl id) rfl rfl ?_
  refine TrL.gd rfl rfl rfl (ok_eql rfl id rfl (fun _ => rfl)) rfl rfl ?_
  refine TrL.op (ok_and rfl (fun _ => rfl) rfl (fun hp h => gdT2 ((fun _ => rfl) hp) h)) rfl rfl ?_
  refine TrL.op (ok_assign rfl (fun _ => rfl)) rfl rfl ?_
  refine TrL.fin ?_
  refine End.nxt ?_
  refine Tr.ret ?_
  exact Rts.res1 (fn := Try.f18) rfl (.b rfl (nothing_eq) <| .nil)

set_option maxRecDepth 100000 in
theorem ct_Few (o : Ori) : Ct Try.prog 15 [kRd eO o] (kB (decide (o.1.length ≤ 12 ∧ o.2.length ≤ 12 ∨ 60 < o.1.length ∧ o.1.length ≤ 62 ∧ o.2.length ≤ 62))) := by
  refine Ct.mk Try.func15 rfl Try.ntmps15 rfl (fun w J => ?_)
  refine Tr.seq ?_
  refine Tr.rg ?_
  refine TrL.new (ok_box 1 rfl (fun _ => rfl) rfl) rfl rfl rfl rfl ?_
  refine TrL.op (ok_assign rfl (fun _ => rfl)) rfl rfl ?_
  refine TrL.fin ?_
  refine End.nxt ?_
  refine Tr.seq ?_
  refine Tr.draw 7 mixed (by kernel_rfl) ?_
  refine RunD.op (ok_fldO rfl (fun _ => rfl)) rfl rfl ?_
  refine RunD.op (ok_ldB rfl (fun _ => rfl) rfl) rfl rfl ?_
  refine RunD.op (ok_lenJ rfl (fun _ => rfl)) rfl rfl ?_
  refine RunD.op (ok_fldO rfl (fun _ => rfl)) rfl rfl ?_
  refine RunD.op (ok_ldB rfl (fun _ => rfl) rfl) rfl rfl ?_
  refine RunD.op (ok_lenJ rfl (fun _ => rfl)) rfl rfl ?_
  refine RunD.op (ok_assign rfl (fun _ => rfl)) rfl rfl ?_
  refine RunD.z ?_
  refine TrL.op (ok_assign rfl (fun _ => rfl)) rfl rfl ?_
  refine TrL.fin ?_
  refine End.nxt ?_
  refine Tr.seq ?_
  refine Tr.rg ?_
  refine TrL.op (ok_move rfl (fun _ => rfl)) rfl rfl ?_
  refine TrL.op (ok_leq rfl (fun _ => rfl) rfl (fun _ => rfl)) rfl rfl ?_
  refine TrL.op (ok_move rfl (fun _ => rfl)) rfl rfl ?_
  refine TrL.gd rfl rfl rfl (ok_move rfl (fun _ => rfl)) rfl rfl ?_
  refine TrL.gd rfl rfl rfl (ok_leq rfl id rfl (fun _ => rfl)) rfl rfl ?_
  refine TrL.op (ok_and rfl (fun _ => rfl) rfl (fun hp h => gdT2 ((fun _ => rfl) hp) h)) rfl rfl ?_
  refine TrL.op (ok_move rfl (fun _ => rfl)) rfl rfl ?_
  refine TrL.gd rfl rfl rfl (ok_move rfl (fun _ => rfl)) rfl rfl ?_
  refine TrL.gd rfl rfl rfl (ok_gtr rfl id rfl (fun _ => rfl)) rfl rfl ?_
  refine TrL.gd rfl rfl rfl (ok_move rfl id) rfl rfl ?_
  refine TrL.gd rfl rfl rfl (ok_move rfl (fun _ => rfl)) rfl rfl ?_
  refine TrL.gd rfl rfl rfl (ok_leq rfl id rfl (fun _ => rfl)) rfl rfl ?_
  refine TrL.gd rfl rfl rfl (ok_and rfl id rfl (fun hp h => gdT2 (id hp) h)) rfl rfl ?_
  refine TrL.gd rfl rfl rfl (ok_move rfl id) rfl rfl ?_
  refine TrL.gd rfl rfl rfl (ok_move rfl (fun _ => rfl)) rfl rfl ?_
  refine TrL.gd rfl rfl rfl (ok_leq rfl id rfl (fun _ => rfl)) rfl rfl ?_
  refine TrL.gd rfl rfl rfl (ok_and rfl id rfl (fun hp h => gdT2 (id hp) h)) rfl rfl ?_
  refine TrL.op (ok_or rfl (fun _ => rfl) rfl (fun hp h => gdF2 ((fun _ => rfl) hp) h)) rfl rfl ?_
  refine TrL.op (ok_assign rfl (fun _ => rfl)) rfl rfl ?_
  refine TrL.fin ?_
  refine End.nxt ?_
  refine Tr.ret ?_
  exact Rts.res1 (fn := Try.f15) rfl (.b rfl (by first | rfl | (simp; omega) | (rw [Bool.eq_iff_iff]; simp; omega)) <| .nil)

end Go.Fl

/- The reference of chapter 6: least elements, members in order. Plain Lean, no program in sight. -/
namespace Go.Fl
def minTo (c : List Int) (x : Int) : Nat → Int
  | 0 => x
  | i + 1 => if nth c i < minTo c x i then nth c i else minTo c x i
theorem minTo_le {c : List Int} {x : Int} : ∀ {i : Nat}, minTo c x i ≤ x
  | 0 => Int.le_refl _
  | i + 1 => by
    have := minTo_le (c := c) (x := x) (i := i)
    rw [minTo]; split <;> omega
theorem minTo_all {c : List Int} {x : Int} : ∀ {i : Nat}, (∀ j, j < i → minTo c x i ≤ nth c j) ∧ ((∀ j, j < i → x ≤ nth c j) → minTo c x i = x)
  | 0 => ⟨fun _ h => absurd h (by omega), fun _ => rfl⟩
  | i + 1 => by
    obtain ⟨h1, h2⟩ := minTo_all (c := c) (x := x) (i := i)
    rw [minTo]
    refine ⟨fun j hj => ?_, fun h => ?_⟩
    · by_cases e : j = i
      · subst e; split <;> omega
      · have := h1 j (by omega); split <;> omega
    · rw [h2 fun j hj => h j (by omega), if_neg (by have := h i (by omega); omega)]
theorem minTo_eq {c : List Int} {x : Int} : minTo c x c.length = x ↔ ∀ y ∈ c, x ≤ y := by
  obtain ⟨h1, h2⟩ := minTo_all (c := c) (x := x) (i := c.length)
  constructor
  · intro e y hy
    obtain ⟨j, hj, rfl⟩ := List.getElem_of_mem hy
    have := h1 j hj
    rw [nth_of_get? (List.getElem?_eq_getElem hj)] at this
    omega
  · intro h; exact h2 fun j hj => h _ (nth_mem hj)
theorem min_low {p : List Int} {k : Nat} : minTo (orb p k) k (orb p k).length = k ↔ low p k = true := by
  rw [minTo_eq]
  unfold low
  rw [List.all_eq_true]
  exact ⟨fun h y hy => decide_eq_true (h y hy), fun h y hy => of_decide_eq_true (h y hy)⟩
def ascK (l : List Int) (k : Nat) : List Int := (sqs k).filter (fun x => decide (x ∈ l))
theorem sqs_succ {k : Nat} : sqs (k + 1) = sqs k ++ [(k : Int)] := tab_succ
theorem ascK_in {l : List Int} {k : Nat} (h : (k : Int) ∈ l) : ascK l (k + 1) = ascK l k ++ [(k : Int)] := by
  unfold ascK; rw [sqs_succ, List.filter_append]; simp [h]
theorem ascK_out {l : List Int} {k : Nat} (h : (k : Int) ∉ l) : ascK l (k + 1) = ascK l k := by
  unfold ascK; rw [sqs_succ, List.filter_append]; simp [h]
theorem ascK_len {l : List Int} {k : Nat} : (ascK l k).length ≤ k := by
  have := List.length_filter_le (fun x => decide (x ∈ l)) (sqs k)
  simpa [ascK, sqs, tab] using this
/-- A round of the reference's search. -/
structure RnSt (o : Ori) (s : Int) (S T : List Int) (x : Nat) : Prop where
  sub : ∀ y, y ∈ S → y ∈ T
  rch : ∀ y, y ∈ T → y ∈ reach o s
  stp : ∀ y : Nat, y < x → (y : Int) ∈ S → ap o.1 y ∈ T ∧ ap o.2 y ∈ T
theorem RnSt.start {o : Ori} {s : Int} {S : List Int} (h : ∀ y, y ∈ S → y ∈ reach o s) : RnSt o s S S 0 := ⟨fun _ h => h, h, fun _ h => absurd h (by omega)⟩
theorem RnSt.yes {o : Ori} (v : Valid o) {s : Int} (hs : Sq o.1.length s) {S T : List Int} {x : Nat} (h : RnSt o s S T x) (hx : (x : Int) ∈ T) : RnSt o s S (T ++ [ap o.1 x] ++ [ap o.2 x]) (x + 1) := by
  have hc := reach_closed v hs (h.rch _ hx)
  refine ⟨fun y hy => by simp [h.sub y hy], fun y hy => ?_, fun y hy hm => ?_⟩
  · simp at hy
    rcases hy with hy | rfl | rfl
    · exact h.rch y hy
    · exact hc.1
    · exact hc.2
  · by_cases e : y = x
    · subst e; simp
    · have := h.stp y (by omega) hm; simp [this.1, this.2]
theorem RnSt.no {o : Ori} {s : Int} {S T : List Int} {x : Nat} (h : RnSt o s S T x) (hx : (x : Int) ∉ T) : RnSt o s S T (x + 1) :=
  ⟨h.sub, h.rch, fun y hy hm => by
    by_cases e : y = x
    · subst e; exact absurd (h.sub _ hm) hx
    · exact h.stp y (by omega) hm⟩
structure RoSt (o : Ori) (s : Int) (S : List Int) (r : Nat) : Prop where
  rch : ∀ y, y ∈ S → y ∈ reach o s
  met : ∀ j, j ≤ r → j < (reach o s).length → nth (reach o s) j ∈ S
theorem RoSt.start {o : Ori} {s : Int} : RoSt o s [s] 0 := ⟨fun y hy => by simp at hy; subst hy; exact reach_self, fun j hj hl => by
  obtain rfl : j = 0 := by omega
  obtain ⟨r, hr⟩ := bfsTo_pre' (o := o) (F := []) (s := s) (Nat.zero_le o.1.length)
  rw [show reach o s = [s] ++ r from hr, nth_app_l (by simp)]; simp [nth]⟩
theorem RoSt.next {o : Ori} (v : Valid o) {s : Int} (hs : Sq o.1.length s) {S T : List Int} {r : Nat} (h : RoSt o s S r) (hT : RnSt o s S T o.1.length) : RoSt o s T (r + 1) :=
  ⟨hT.rch, reach_rounds h.met hT.sub fun j hj hl y hy => by
    have hq := reach_sq v hs (nth_mem hl)
    have hm := h.met j hj hl
    obtain ⟨n, hn⟩ : ∃ n : Nat, nth (reach o s) j = n := ⟨(nth (reach o s) j).toNat, by have := hq.1; omega⟩
    rw [hn] at hy hm hq
    have := hT.stp n (by have := hq.2; omega) hm
    simp only [Fl.stp, List.mem_cons, List.not_mem_nil, or_false] at hy
    rcases hy with rfl | rfl
    · exact this.1
    · exact this.2⟩
theorem RoSt.fin {o : Ori} (v : Valid o) {s : Int} (hs : Sq o.1.length s) {S : List Int} (h : RoSt o s S o.1.length) : ascK S o.1.length = compL o s :=
  asc_congr fun x _ => ⟨h.rch x, fun hx => by
    obtain ⟨j, hj, rfl⟩ := List.getElem_of_mem hx
    have := (reach_good v hs).len
    have := h.met j (by omega) hj
    rwa [nth_of_get? (List.getElem?_eq_getElem hj)] at this⟩
theorem compL_pos {o : Ori} (v : Valid o) {s : Int} (hs : Sq o.1.length s) : 0 < (compL o s).length ∧ (compL o s).length ≤ o.1.length :=
  ⟨List.length_pos_iff.2 (List.ne_nil_of_mem ((mem_compL v hs).2 reach_self)), (asc_good (reach_good v hs).rng).len⟩
end Go.Fl

/- Contracts: the reference of chapter 6. -/
namespace Go.Fl
open Go Go.Proofs


theorem ct_rInv2 {n : Nat} (p : List Int) (h : Perm p n) (hn : n ≤ 1000) : Ct Try.prog 81 [kRd (eL eI) p] (kRd (eL eI) (invL p)) := by
  have := ct_rInverse p (by have := h.ln; omega)
  rwa [invA_eq h.nd h.rg h.ln] at this
theorem ct_rAft2 {n : Nat} (p q : List Int) (P : Perm p n) (Q : Perm q n) (hn : n ≤ 1000) : Ct Try.prog 80 [kRd (eL eI) p, kRd (eL eI) q] (kRd (eL eI) (thenL p q)) :=
  ct_rAfter p q (by have := P.ln; omega) (by rw [Q.ln]; exact P.rg)

set_option maxRecDepth 100000 in
theorem ct_rCycle (n : Nat) (p : List Int) (x : Int) (P : Perm p n) (hx : Sq n x) (hn : n ≤ 1000) : Ct Try.prog 88 [kRd (eL eI) p, kI x] (kRd (eL eI) (orb p x)) := by
  have hln := P.ln
  have hx0 := hx.1
  have hx1 := hx.2
  obtain ⟨hp1, hp2, hp3, hp4⟩ := P.pers hx
  refine Ct.mk Try.func88 rfl Try.ntmps88 rfl (fun w J => ?_)
  refine Tr.seq ?_
  refine Tr.rg ?_
  refine TrL.op (ok_assign rfl (fun _ => rfl)) rfl rfl ?_
  refine TrL.fin ?_
  refine End.nxt ?_
  refine Tr.seq ?_
  refine Tr.rg ?_
  refine TrL.op (ok_move rfl (fun _ => rfl)) rfl rfl ?_
  refine TrL.new (ok_bsl eI 8 (fun hp => .cons rfl <| .nil) rfl rfl rfl rfl) rfl rfl rfl rfl ?_
  refine TrL.op (ok_assign rfl (fun _ => rfl)) rfl rfl ?_
  refine TrL.fin ?_
  refine End.nxt ?_
  refine Tr.seq ?_
  refine Tr.seq ?_
  refine Tr.rg ?_
  refine TrL.op (ok_move rfl (fun _ => rfl)) rfl rfl ?_
  refine TrL.op (ok_move rfl (fun _ => rfl)) rfl rfl ?_
  first | refine TrL.op (ok_idxN rfl (fun _ => rfl) rfl (fun _ => rfl) rfl (fun _ => by omega)) rfl rfl ?_ | refine TrL.op (ok_idxP rfl (fun _ => rfl) rfl (fun _ => rfl) rfl (fun _ => by omega)) rfl rfl ?_
  refine TrL.op (ok_ldP rfl (fun _ => rfl) rfl) rfl rfl ?_
  refine TrL.op (ok_assign rfl (fun _ => rfl)) rfl rfl ?_
  refine TrL.fin ?_
  refine End.nxt ?_
  refine Tr.for1 (σ := Nat) [⟨0, true, _, _⟩, ⟨1, true, _, _⟩] [] (fun m => [⟨5, true, [8], kOsl 8 m⟩, ⟨6, true, [], kI (it p m x)⟩]) (fun m => [⟨8, [], cArr false 3 eI (tab m (fun i => it p i x)) m⟩]) (fun m => 0 < m ∧ m ≤ per p x) (fun m => m = per p x) (fun m => per p x - m) (1) ⟨by omega, by omega⟩ (Ent.mk (.o rfl (by first | rfl | omega | (simp; done) | (simp; omega) | assumption) rfl <| .i rfl (by rfl) <| .k rfl rfl <| .k rfl rfl <| .nil) (.a (by rfl) (by first | rfl | omega | (simp; done) | (simp; omega) | assumption) <| .nil) rfl) ?_ ?_
  · rintro m ⟨hm0, hm1⟩
    refine Tr.norm (S' := [⟨5, true, _, _⟩, ⟨6, true, _, _⟩, ⟨0, true, _, _⟩, ⟨1, true, _, _⟩]) (M' := [⟨8, _, _⟩]) rfl rfl ?_
    have hir := P.its hx m
    have hir0 := hir.1
    have hir1 := hir.2
    refine Tr.seq ?_
    refine Tr.seq ?_
    refine Tr.rg ?_
    refine TrL.op (ok_move rfl (fun _ => rfl)) rfl rfl ?_
    refine TrL.op (ok_move rfl (fun _ => rfl)) rfl rfl ?_
    refine TrL.op (ok_neq rfl (fun _ => rfl) rfl (fun _ => rfl)) rfl rfl ?_
    refine TrL.fin ?_
    refine End.nxt ?_
    refine Tr.cnd rfl ?_ ?_
    · intro h3
      replace h3 := of_decide_eq_true h3
      refine Tr.skip ?_
      refine End.nxt ?_
      refine Tr.seq ?_
      refine Tr.blk ?_
      refine Tr.rg ?_
      refine TrL.op (ok_move rfl (fun _ => rfl)) rfl rfl ?_
      refine TrL.op (ok_move rfl (fun _ => rfl)) rfl rfl ?_
      refine TrL.new (ok_bsl eI 22 (fun hp => .cons rfl <| .nil) rfl rfl rfl rfl) rfl rfl rfl rfl ?_
      refine TrL.app rfl rfl rfl rfl rfl rfl rfl rfl (by first | omega | (simp only [List.length_cons, List.length_nil]; omega)) (by first | omega | (simp only [List.length_cons, List.length_nil]; omega)) ?_
      refine TrL.norm (S' := [⟨_, _, _, _⟩, ⟨_, _, _, _⟩, ⟨_, _, _, _⟩, ⟨_, _, _, _⟩, ⟨_, _, _, _⟩, ⟨_, _, _, _⟩, ⟨_, _, _, _⟩, ⟨_, _, _, _⟩, ⟨_, _, _, _⟩, ⟨_, _, _, _⟩, ⟨_, _, _, _⟩]) rfl rfl ?_
      refine TrL.op (ok_assign rfl (fun _ => rfl)) rfl rfl ?_
      refine TrL.fin ?_
      refine End.blk ?_
      refine End.nxt ?_
      refine Tr.rg ?_
      refine TrL.op (ok_move rfl (fun _ => rfl)) rfl rfl ?_
      refine TrL.op (ok_move rfl (fun _ => rfl)) rfl rfl ?_
      first | refine TrL.op (ok_idxN rfl (fun _ => rfl) rfl (fun _ => rfl) rfl (fun _ => by omega)) rfl rfl ?_ | refine TrL.op (ok_idxP rfl (fun _ => rfl) rfl (fun _ => rfl) rfl (fun _ => by omega)) rfl rfl ?_
      refine TrL.op (ok_ldP rfl (fun _ => rfl) rfl) rfl rfl ?_
      refine TrL.op (ok_assign rfl (fun _ => rfl)) rfl rfl ?_
      refine TrL.fin ?_
      exact End.lp (m + 1) ⟨by omega, by (rcases Nat.lt_or_eq_of_le hm1 with h | h; omega; subst h; exact absurd hp1 h3)⟩ (by (rcases Nat.lt_or_eq_of_le hm1 with h | h; omega; subst h; exact absurd hp1 h3)) (Ent.mk (.o rfl (by first | rfl | omega | (simp; done) | (simp; omega) | assumption) rfl <| .i rfl (by rfl) <| .k rfl rfl <| .k rfl rfl <| .nil) (.a tab_succ.symm (by first | rfl | omega | (simp; done) | (simp; omega) | assumption) <| .nil) rfl)
    · intro h3
      replace h3 := Classical.not_not.1 (of_decide_eq_false h3)
      refine Tr.exit ?_
      refine Exs.thn ?_
      refine Exs.thn ?_
      refine Exs.here ?_
      exact End.cut (m) (by (rcases Nat.lt_or_eq_of_le hm1 with h | h; exact absurd h3 (hp4 m hm0 h); exact h)) (Ent.mk (.o rfl (by first | rfl | omega | (simp; done) | (simp; omega) | assumption) rfl <| .i rfl (by first | rfl | omega | (simp; done) | (simp; omega) | assumption) <| .k rfl rfl <| .k rfl rfl <| .nil) (.a (by first | rfl | omega | (simp; done) | (simp; omega) | assumption) (by first | rfl | omega | (simp; done) | (simp; omega) | assumption) <| .nil) rfl)
  · rintro _ rfl
    refine End.norm (S' := [⟨5, true, _, _⟩, ⟨6, true, _, _⟩, ⟨0, true, _, _⟩, ⟨1, true, _, _⟩]) (M' := [⟨8, _, _⟩]) rfl rfl ?_
    refine End.nxt ?_
    refine Tr.seq ?_
    refine Tr.rg ?_
    refine TrL.op (ok_move rfl (fun _ => rfl)) rfl rfl ?_
    refine TrL.op (ok_assign rfl (fun _ => rfl)) rfl rfl ?_
    refine TrL.fin ?_
    refine End.nxt ?_
    refine Tr.frz 8 [4] ⟨rfl, trivial⟩ (by simp only [lenMax]; omega) rfl ?_
    refine Tr.ret ?_
    exact Rts.res1 (fn := Try.f88) rfl (.r rfl (by rfl) <| .nil)

set_option maxRecDepth 100000 in
theorem ct_rCycles (n : Nat) (p : List Int) (P : Perm p n) (hn : n ≤ 1000) : Ct Try.prog 41 [kRd (eL eI) p] (kRd (eL (eL eI)) (cycs p n)) := by
  have hln := P.ln
  refine Ct.mk Try.func41 rfl Try.ntmps41 rfl (fun w J => ?_)
  refine Tr.seq ?_
  refine Tr.rg ?_
  refine TrL.op (ok_assign rfl (fun _ => rfl)) rfl rfl ?_
  refine TrL.fin ?_
  refine End.nxt ?_
  refine Tr.seq ?_
  refine Tr.rg ?_
  refine TrL.op (ok_assign rfl (fun _ => rfl)) rfl rfl ?_
  refine TrL.fin ?_
  refine End.nxt ?_
  refine Tr.seq ?_
  refine Tr.seq ?_
  refine Tr.rg ?_
  refine TrL.op (ok_assign rfl (fun _ => rfl)) rfl rfl ?_
  refine TrL.fin ?_
  refine End.nxt ?_
  refine Tr.grow (s := 3) rfl rfl 3 rfl 22 (eL eI) rfl ?_
  refine Tr.for1 (σ := Nat) [⟨0, true, _, _⟩] [] (fun k => [⟨3, true, [3], kOsl 3 (cycs p k).length⟩, ⟨4, true, [], kI (k : Int)⟩]) (fun k => [⟨3, [], cArr true 22 (eL eI) (cycs p k) (cycs p k).length⟩]) (fun k => k ≤ n) (fun k => k = n) (fun k => n - k) (0) (Nat.zero_le _) (Ent.mk (.o rfl (by first | rfl | omega | (simp; done) | (simp; omega) | assumption) rfl <| .i rfl (by first | rfl | omega | (simp; done) | (simp; omega) | assumption) <| .k rfl rfl <| .nil) (.a (by first | rfl | omega | (simp; done) | (simp; omega) | assumption) (by first | rfl | omega | (simp; done) | (simp; omega) | assumption) <| .nil) rfl) ?_ ?_
  · intro k hR0
    refine Tr.norm (S' := [⟨3, true, _, _⟩, ⟨4, true, _, _⟩, ⟨0, true, _, _⟩]) (M' := [⟨3, _, _⟩]) rfl rfl ?_
    have hcl := cycs_length (p := p) (k := k)
    refine Tr.seq ?_
    refine Tr.seq ?_
    refine Tr.rg ?_
    refine TrL.op (ok_move rfl (fun _ => rfl)) rfl rfl ?_
    refine TrL.op (ok_move rfl (fun _ => rfl)) rfl rfl ?_
    refine TrL.op (ok_lenJ rfl (fun _ => rfl)) rfl rfl ?_
    refine TrL.op (ok_lss rfl (fun _ => rfl) rfl (fun _ => rfl)) rfl rfl ?_
    refine TrL.fin ?_
    refine End.nxt ?_
    refine Tr.cnd rfl ?_ ?_
    · intro h3
      replace h3 := of_decide_eq_true h3
      have hk : k < n := by omega
      have hks : Sq n (k : Int) := Sq.nat hk
      have hpr := P.pers hks
      have hol := orb_len (p := p) (x := (k : Int))
      refine Tr.skip ?_
      refine End.nxt ?_
      refine Tr.seq ?_
      refine Tr.blk ?_
      refine Tr.seq ?_
      refine Tr.rg ?_
      refine TrL.op (ok_move rfl (fun _ => rfl)) rfl rfl ?_
      refine TrL.op (ok_move rfl (fun _ => rfl)) rfl rfl ?_
      refine TrL.op (ok_call (fun hp => ct_rCycle n p _ P hks hn) (.a rfl (fun _ => rfl) <| .a rfl (fun _ => rfl) <| .nil)) rfl rfl ?_
      refine TrL.op (ok_assign rfl (fun _ => rfl)) rfl rfl ?_
      refine TrL.fin ?_
      refine End.nxt ?_
      refine Tr.seq ?_
      refine Tr.rg ?_
      refine TrL.op (ok_move rfl (fun _ => rfl)) rfl rfl ?_
      refine TrL.op (ok_assign rfl (fun _ => rfl)) rfl rfl ?_
      refine TrL.fin ?_
      refine End.nxt ?_
      refine Tr.seq ?_
      refine Tr.seq ?_
      refine Tr.rg ?_
      refine TrL.op (ok_assign rfl (fun _ => rfl)) rfl rfl ?_
      refine TrL.fin ?_
      refine End.nxt ?_
      refine Tr.for1 (σ := Nat) [⟨0, true, _, _⟩, ⟨3, true, _, _⟩, ⟨4, true, _, _⟩, ⟨5, true, _, _⟩] [⟨3, _, _⟩] (fun i => [⟨7, true, [], kI (i : Int)⟩, ⟨6, true, [], kI (minTo (orb p k) k i)⟩]) (fun i => []) (fun i => i ≤ (orb p k).length) (fun i => i = (orb p k).length) (fun i => (orb p k).length - i) (0) (Nat.zero_le _) (Ent.mk (.i rfl (by first | rfl | omega | (simp; done) | (simp; omega) | assumption) <| .i rfl (by rfl) <| .k rfl rfl <| .k rfl rfl <| .k rfl rfl <| .k rfl rfl <| .nil) (.k rfl <| .nil) rfl) ?_ ?_
      · intro i hR1
        refine Tr.norm (S' := [⟨7, true, _, _⟩, ⟨6, true, _, _⟩, ⟨0, true, _, _⟩, ⟨3, true, _, _⟩, ⟨4, true, _, _⟩, ⟨5, true, _, _⟩]) (M' := [⟨3, _, _⟩]) rfl rfl ?_
        refine Tr.seq ?_
        refine Tr.seq ?_
        refine Tr.rg ?_
        refine TrL.op (ok_move rfl (fun _ => rfl)) rfl rfl ?_
        refine TrL.op (ok_move rfl (fun _ => rfl)) rfl rfl ?_
        refine TrL.op (ok_lenJ rfl (fun _ => rfl)) rfl rfl ?_
        refine TrL.op (ok_lss rfl (fun _ => rfl) rfl (fun _ => rfl)) rfl rfl ?_
        refine TrL.fin ?_
        refine End.nxt ?_
        refine Tr.cnd rfl ?_ ?_
        · intro h8
          replace h8 := of_decide_eq_true h8
          refine Tr.skip ?_
          refine End.nxt ?_
          refine Tr.seq ?_
          refine Tr.blk ?_
          refine Tr.rg ?_
          refine TrL.op (ok_move rfl (fun _ => rfl)) rfl rfl ?_
          refine TrL.op (ok_move rfl (fun _ => rfl)) rfl rfl ?_
          refine TrL.op (ok_move rfl (fun _ => rfl)) rfl rfl ?_
          first | refine TrL.op (ok_idxN rfl (fun _ => rfl) rfl (fun _ => rfl) rfl (fun _ => by omega)) rfl rfl ?_ | refine TrL.op (ok_idxP rfl (fun _ => rfl) rfl (fun _ => rfl) rfl (fun _ => by omega)) rfl rfl ?_
          refine TrL.op (ok_ldP rfl (fun _ => rfl) rfl) rfl rfl ?_
          refine TrL.op (ok_min rfl (fun _ => rfl) rfl (fun _ => rfl)) rfl rfl ?_
          refine TrL.op (ok_assign rfl (fun _ => rfl)) rfl rfl ?_
          refine TrL.fin ?_
          refine End.blk ?_
          refine End.nxt ?_
          refine Tr.rg ?_
          refine TrL.op (ok_move rfl (fun _ => rfl)) rfl rfl ?_
          refine TrL.op (ok_add rfl (fun _ => rfl) rfl (fun _ => rfl) (fun _ => by omega)) rfl rfl ?_
          refine TrL.op (ok_assign rfl (fun _ => rfl)) rfl rfl ?_
          refine TrL.fin ?_
          exact End.lp (i + 1) (by first | rfl | omega | (simp; done) | (simp; omega) | assumption) (by omega) (Ent.mk (.i rfl (by first | rfl | omega | (simp; done) | (simp; omega) | assumption) <| .i rfl (by rfl) <| .k rfl rfl <| .k rfl rfl <| .k rfl rfl <| .k rfl rfl <| .nil) (.k rfl <| .nil) rfl)
        · intro h8
          replace h8 := Int.not_lt.1 (of_decide_eq_false h8)
          refine Tr.exit ?_
          refine Exs.thn ?_
          refine Exs.thn ?_
          refine Exs.here ?_
          exact End.cut (i) (by omega) (Ent.mk (.i rfl (by first | rfl | omega | (simp; done) | (simp; omega) | assumption) <| .i rfl (by first | rfl | omega | (simp; done) | (simp; omega) | assumption) <| .k rfl rfl <| .k rfl rfl <| .k rfl rfl <| .k rfl rfl <| .nil) (.k rfl <| .nil) rfl)
      · rintro _ rfl
        refine End.norm (S' := [⟨7, true, _, _⟩, ⟨6, true, _, _⟩, ⟨0, true, _, _⟩, ⟨3, true, _, _⟩, ⟨4, true, _, _⟩, ⟨5, true, _, _⟩]) (M' := [⟨3, _, _⟩]) rfl rfl ?_
        have hml := min_low (p := p) (k := k)
        refine End.nxt ?_
        refine Tr.seq ?_
        refine Tr.rg ?_
        refine TrL.op (ok_move rfl (fun _ => rfl)) rfl rfl ?_
        refine TrL.op (ok_move rfl (fun _ => rfl)) rfl rfl ?_
        refine TrL.op (ok_eql rfl (fun _ => rfl) rfl (fun _ => rfl)) rfl rfl ?_
        refine TrL.fin ?_
        refine End.nxt ?_
        refine Tr.cnd rfl ?_ ?_
        · intro h11
          replace h11 := of_decide_eq_true h11
          have hlow := hml.1 (by omega)
          refine Tr.rg ?_
          refine TrL.op (ok_move rfl (fun _ => rfl)) rfl rfl ?_
          refine TrL.op (ok_move rfl (fun _ => rfl)) rfl rfl ?_
          refine TrL.new (ok_bsl (eL eI) 35 (fun hp => .cons rfl <| .nil) rfl rfl rfl rfl) rfl rfl rfl rfl ?_
          refine TrL.app rfl rfl rfl rfl rfl rfl rfl rfl (by first | omega | (simp only [List.length_cons, List.length_nil]; omega)) (by first | omega | (simp only [List.length_cons, List.length_nil]; omega)) ?_
          refine TrL.norm (S' := [⟨_, _, _, _⟩, ⟨_, _, _, _⟩, ⟨_, _, _, _⟩, ⟨_, _, _, _⟩, ⟨_, _, _, _⟩, ⟨_, _, _, _⟩, ⟨_, _, _, _⟩, ⟨_, _, _, _⟩, ⟨_, _, _, _⟩, ⟨_, _, _, _⟩, ⟨_, _, _, _⟩, ⟨_, _, _, _⟩, ⟨_, _, _, _⟩]) rfl rfl ?_
          refine TrL.op (ok_assign rfl (fun _ => rfl)) rfl rfl ?_
          refine TrL.fin ?_
          refine End.blk ?_
          refine End.nxt ?_
          refine Tr.rg ?_
          refine TrL.op (ok_move rfl (fun _ => rfl)) rfl rfl ?_
          refine TrL.op (ok_add rfl (fun _ => rfl) rfl (fun _ => rfl) (fun _ => by omega)) rfl rfl ?_
          refine TrL.op (ok_assign rfl (fun _ => rfl)) rfl rfl ?_
          refine TrL.fin ?_
          exact End.lp (k + 1) (by first | rfl | omega | (simp; done) | (simp; omega) | assumption) (by omega) (Ent.mk (.o rfl (by rw [P.cycs_next hk hlow, List.length_append]) rfl <| .i rfl (by first | rfl | omega | (simp; done) | (simp; omega) | assumption) <| .k rfl rfl <| .nil) (.a (by rw [P.cycs_next hk hlow]) (by rw [P.cycs_next hk hlow, List.length_append]) <| .nil) rfl)
        · intro h11
          replace h11 := of_decide_eq_false h11
          have hlow : low p k = false := (by (cases hh : low p k; rfl; exact absurd (hml.2 hh) (by omega)))
          refine Tr.skip ?_
          refine End.blk ?_
          refine End.nxt ?_
          refine Tr.rg ?_
          refine TrL.op (ok_move rfl (fun _ => rfl)) rfl rfl ?_
          refine TrL.op (ok_add rfl (fun _ => rfl) rfl (fun _ => rfl) (fun _ => by omega)) rfl rfl ?_
          refine TrL.op (ok_assign rfl (fun _ => rfl)) rfl rfl ?_
          refine TrL.fin ?_
          exact End.lp (k + 1) (by first | rfl | omega | (simp; done) | (simp; omega) | assumption) (by omega) (Ent.mk (.o rfl (by rw [P.cycs_same hk hlow]) rfl <| .i rfl (by first | rfl | omega | (simp; done) | (simp; omega) | assumption) <| .k rfl rfl <| .nil) (.a (by rw [P.cycs_same hk hlow]) (by rw [P.cycs_same hk hlow]) <| .nil) rfl)
    · intro h3
      replace h3 := Int.not_lt.1 (of_decide_eq_false h3)
      refine Tr.exit ?_
      refine Exs.thn ?_
      refine Exs.thn ?_
      refine Exs.here ?_
      exact End.cut (k) (by omega) (Ent.mk (.o rfl (by first | rfl | omega | (simp; done) | (simp; omega) | assumption) rfl <| .i rfl (by first | rfl | omega | (simp; done) | (simp; omega) | assumption) <| .k rfl rfl <| .nil) (.a (by first | rfl | omega | (simp; done) | (simp; omega) | assumption) (by first | rfl | omega | (simp; done) | (simp; omega) | assumption) <| .nil) rfl)
  · intro k hE0
    refine End.norm (S' := [⟨3, true, _, _⟩, ⟨4, true, _, _⟩, ⟨0, true, _, _⟩]) (M' := [⟨3, _, _⟩]) rfl rfl ?_
    subst hE0
    have hcl := cycs_length (p := p) (k := k)
    refine End.nxt ?_
    refine Tr.seq ?_
    refine Tr.rg ?_
    refine TrL.op (ok_move rfl (fun _ => rfl)) rfl rfl ?_
    refine TrL.op (ok_assign rfl (fun _ => rfl)) rfl rfl ?_
    refine TrL.fin ?_
    refine End.nxt ?_
    refine Tr.frz 3 [2] ⟨rfl, trivial⟩ (by simp only [lenMax]; omega) rfl ?_
    refine Tr.ret ?_
    exact Rts.res1 (fn := Try.f41) rfl (.r rfl (by first | rfl | omega | (simp; done) | (simp; omega) | assumption) <| .nil)

set_option maxRecDepth 100000 in
theorem ct_rComm (o : Ori) (v : Valid o) : Ct Try.prog 31 [kRd eO o] (kRd (eL eI) (comm o)) := by
  have hv0 := v.pos
  have hv1 := v.len
  have hv2 := v.le
  refine Ct.mk Try.func31 rfl Try.ntmps31 rfl (fun w J => ?_)
  refine Tr.seq ?_
  refine Tr.rg ?_
  refine TrL.new (ok_box 1 rfl (fun _ => rfl) rfl) rfl rfl rfl rfl ?_
  refine TrL.op (ok_assign rfl (fun _ => rfl)) rfl rfl ?_
  refine TrL.fin ?_
  refine End.nxt ?_
  refine Tr.seq ?_
  refine Tr.draw 12 mixed (by kernel_rfl) ?_
  refine RunD.op (ok_fldO rfl (fun _ => rfl)) rfl rfl ?_
  refine RunD.op (ok_ldB rfl (fun _ => rfl) rfl) rfl rfl ?_
  refine RunD.op (ok_call (fun hp => ct_rInv2 _ v.pR (by omega)) (.a rfl (fun _ => rfl) <| .nil)) rfl rfl ?_
  refine RunD.op (ok_fldO rfl (fun _ => rfl)) rfl rfl ?_
  refine RunD.op (ok_ldB rfl (fun _ => rfl) rfl) rfl rfl ?_
  refine RunD.op (ok_call (fun hp => ct_rInv2 _ v.pU (by omega)) (.a rfl (fun _ => rfl) <| .nil)) rfl rfl ?_
  refine RunD.op (ok_call (fun hp => ct_rAft2 _ _ v.pR.inv v.pU.inv (by omega)) (.a rfl (fun _ => rfl) <| .a rfl (fun _ => rfl) <| .nil)) rfl rfl ?_
  refine RunD.op (ok_fldO rfl (fun _ => rfl)) rfl rfl ?_
  refine RunD.op (ok_ldB rfl (fun _ => rfl) rfl) rfl rfl ?_
  refine RunD.op (ok_call (fun hp => ct_rAft2 _ _ (v.pR.inv.then v.pU.inv) v.pR (by omega)) (.a rfl (fun _ => rfl) <| .a rfl (fun _ => rfl) <| .nil)) rfl rfl ?_
  refine RunD.op (ok_fldO rfl (fun _ => rfl)) rfl rfl ?_
  refine RunD.op (ok_ldB rfl (fun _ => rfl) rfl) rfl rfl ?_
  refine RunD.z ?_
  refine TrL.op (ok_call (fun hp => ct_rAft2 _ _ ((v.pR.inv.then v.pU.inv).then v.pR) v.pU (by omega)) (.a rfl (fun _ => rfl) <| .a rfl (fun _ => rfl) <| .nil)) rfl rfl ?_
  refine TrL.op (ok_assign rfl (fun _ => rfl)) rfl rfl ?_
  refine TrL.fin ?_
  refine End.nxt ?_
  refine Tr.ret ?_
  exact Rts.res1 (fn := Try.f31) rfl (.r rfl (comm_eq v).symm <| .nil)

set_option maxRecDepth 100000 in
theorem ct_rVertices (o : Ori) (v : Valid o) : Ct Try.prog 33 [kRd eO o] (kRd (eL (eL eI)) (vtx o)) := by
  have hv0 := v.pos
  have hv1 := v.len
  have hv2 := v.le
  refine Ct.mk Try.func33 rfl Try.ntmps33 rfl (fun w J => ?_)
  refine Tr.seq ?_
  refine Tr.rg ?_
  refine TrL.new (ok_box 1 rfl (fun _ => rfl) rfl) rfl rfl rfl rfl ?_
  refine TrL.op (ok_assign rfl (fun _ => rfl)) rfl rfl ?_
  refine TrL.fin ?_
  refine End.nxt ?_
  refine Tr.seq ?_
  refine Tr.rg ?_
  refine TrL.op (ok_ldBS rfl (fun _ => rfl)) rfl rfl ?_
  refine TrL.op (ok_call (fun hp => ct_rComm _ v) (.s rfl (fun _ => rfl) rfl <| .nil)) rfl rfl ?_
  refine TrL.op (ok_call (fun hp => ct_rCycles _ _ v.pC (by omega)) (.a rfl (fun _ => rfl) <| .nil)) rfl rfl ?_
  refine TrL.op (ok_assign rfl (fun _ => rfl)) rfl rfl ?_
  refine TrL.fin ?_
  refine End.nxt ?_
  refine Tr.ret ?_
  exact Rts.res1 (fn := Try.f33) rfl (.r rfl (by rfl) <| .nil)

set_option maxRecDepth 100000 in
theorem ct_oComm (o : Ori) : Ct Try.prog 29 [kRd eO o] (kTup [kRd (eL eI) (if chkO o = 0 then comm o else []), kI (chkO o)]) := by
  refine Ct.mk Try.func29 rfl Try.ntmps29 rfl (fun w J => ?_)
  refine Tr.seq ?_
  refine Tr.rg ?_
  refine TrL.new (ok_box 1 rfl (fun _ => rfl) rfl) rfl rfl rfl rfl ?_
  refine TrL.op (ok_assign rfl (fun _ => rfl)) rfl rfl ?_
  refine TrL.op (ok_assign rfl (fun _ => rfl)) rfl rfl ?_
  refine TrL.fin ?_
  refine End.nxt ?_
  refine Tr.seq ?_
  refine Tr.seq ?_
  refine Tr.rg ?_
  refine TrL.op (ok_ldBS rfl (fun _ => rfl)) rfl rfl ?_
  refine TrL.op (ok_call (fun hp => ct_oCheck _) (.s rfl (fun _ => rfl) rfl <| .nil)) rfl rfl ?_
  refine TrL.op (ok_assign rfl (fun _ => rfl)) rfl rfl ?_
  refine TrL.fin ?_
  refine End.nxt ?_
  refine Tr.seq ?_
  refine Tr.rg ?_
  refine TrL.op (ok_move rfl (fun _ => rfl)) rfl rfl ?_
  refine TrL.op (ok_neq rfl (fun _ => rfl) rfl (fun _ => rfl)) rfl rfl ?_
  refine TrL.fin ?_
  refine End.nxt ?_
  refine Tr.cnd rfl ?_ ?_
  · intro h2
    replace h2 := of_decide_eq_true h2
    refine Tr.seq ?_
    refine Tr.rg ?_
    refine TrL.op (ok_move rfl (fun _ => rfl)) rfl rfl ?_
    refine TrL.op (ok_assign rfl (fun _ => rfl)) rfl rfl ?_
    refine TrL.op (ok_assign rfl (fun _ => rfl)) rfl rfl ?_
    refine TrL.fin ?_
    refine End.nxt ?_
    refine Tr.ret ?_
    refine Rts.thn ?_
    exact Rts.res (fn := Try.f29) (ts := [2, 3]) rfl rfl (.n rfl (by rw [if_neg h2]) <| .i rfl (by first | rfl | omega | (simp; done) | (simp; omega) | assumption) <| .nil)
  · intro h2
    replace h2 := Classical.not_not.1 (of_decide_eq_false h2)
    have v : Valid o := valid_of h2
    refine Tr.skip ?_
    refine End.nxt ?_
    refine Tr.seq ?_
    refine Tr.rg ?_
    refine TrL.op (ok_ldBS rfl (fun _ => rfl)) rfl rfl ?_
    refine TrL.op (ok_call (fun hp => ct_comm _ v) (.s rfl (fun _ => rfl) rfl <| .nil)) rfl rfl ?_
    refine TrL.op (ok_assign rfl (fun _ => rfl)) rfl rfl ?_
    refine TrL.op (ok_assign rfl (fun _ => rfl)) rfl rfl ?_
    refine TrL.fin ?_
    refine End.nxt ?_
    refine Tr.ret ?_
    exact Rts.res (fn := Try.f29) (ts := [2, 3]) rfl rfl (.r rfl (by rw [if_pos h2]) <| .i rfl h2.symm <| .nil)

set_option maxRecDepth 100000 in
theorem ct_rSize (o : Ori) : Ct Try.prog 56 [kRd eO o] (kI (o.1.length : Int)) := by
  refine Ct.mk Try.func56 rfl Try.ntmps56 rfl (fun w J => ?_)
  refine Tr.seq ?_
  refine Tr.rg ?_
  refine TrL.new (ok_box 1 rfl (fun _ => rfl) rfl) rfl rfl rfl rfl ?_
  refine TrL.op (ok_assign rfl (fun _ => rfl)) rfl rfl ?_
  refine TrL.fin ?_
  refine End.nxt ?_
  refine Tr.seq ?_
  refine Tr.rg ?_
  refine TrL.op (ok_fldO rfl (fun _ => rfl)) rfl rfl ?_
  refine TrL.op (ok_ldB rfl (fun _ => rfl) rfl) rfl rfl ?_
  refine TrL.op (ok_lenJ rfl (fun _ => rfl)) rfl rfl ?_
  refine TrL.op (ok_assign rfl (fun _ => rfl)) rfl rfl ?_
  refine TrL.fin ?_
  refine End.nxt ?_
  refine Tr.ret ?_
  exact Rts.res1 (fn := Try.f56) rfl (.i rfl (by first | rfl | omega | (simp; done) | (simp; omega) | assumption) <| .nil)

set_option maxRecDepth 100000 in
theorem ct_OrigamiVertices (o : Ori) : Ct Try.prog 5 [kRd eO o] (kB true) := by
  refine Ct.mk Try.func5 rfl Try.ntmps5 rfl (fun w J => ?_)
  refine Tr.seq ?_
  refine Tr.rg ?_
  refine TrL.new (ok_box 1 rfl (fun _ => rfl) rfl) rfl rfl rfl rfl ?_
  refine TrL.op (ok_assign rfl (fun _ => rfl)) rfl rfl ?_
  refine TrL.fin ?_
  refine End.nxt ?_
  refine Tr.seq ?_
  refine Tr.seq ?_
  refine Tr.rg ?_
  refine TrL.op (ok_call (fun hp => ct_awake) (.nil)) rfl rfl ?_
  refine TrL.op (ok_not rfl (fun _ => rfl)) rfl rfl ?_
  refine TrL.fin ?_
  refine End.nxt ?_
  refine Tr.cnd rfl ?_ ?_
  · intro h1
    simp at h1
  · intro h1
    refine Tr.skip ?_
    refine End.nxt ?_
    refine Tr.seq ?_
    refine Tr.seq ?_
    refine Tr.rg ?_
    refine TrL.op (ok_ldBS rfl (fun _ => rfl)) rfl rfl ?_
    refine TrL.op (ok_call (fun hp => ct_Few _) (.s rfl (fun _ => rfl) rfl <| .nil)) rfl rfl ?_
    refine TrL.op (ok_not rfl (fun _ => rfl)) rfl rfl ?_
    refine TrL.fin ?_
    refine End.nxt ?_
    refine Tr.cnd rfl ?_ ?_
    · intro h3
      try simp only [decide_eq_false_iff_not, Bool.not_eq_true'] at h3
      refine Tr.seq ?_
      refine Tr.rg ?_
      refine TrL.op (ok_assign rfl (fun _ => rfl)) rfl rfl ?_
      refine TrL.fin ?_
      refine End.nxt ?_
      refine Tr.ret ?_
      refine Rts.thn ?_
      exact Rts.res1 (fn := Try.f5) rfl (.b rfl (by rfl) <| .nil)
    · intro h3
      try simp only [decide_eq_true_eq, Bool.not_eq_false'] at h3
      refine Tr.skip ?_
      refine End.nxt ?_
      refine Tr.seq ?_
      refine Tr.rg ?_
      refine TrL.op (ok_ldBS rfl (fun _ => rfl)) rfl rfl ?_
      refine TrL.op (ok_call (fun hp => ct_oComm _) (.s rfl (fun _ => rfl) rfl <| .nil)) rfl rfl ?_
      refine TrL.op (ok_move rfl (fun _ => rfl)) rfl rfl ?_
      refine TrL.op (ok_ext rfl (fun _ => rfl) rfl) rfl rfl ?_
      refine TrL.op (ok_ext rfl (fun _ => rfl) rfl) rfl rfl ?_
      refine TrL.op (ok_assign rfl (fun _ => rfl)) rfl rfl ?_
      refine TrL.op (ok_assign rfl (fun _ => rfl)) rfl rfl ?_
      refine TrL.fin ?_
      refine End.nxt ?_
      refine Tr.seq ?_
      refine Tr.rg ?_
      refine TrL.op (ok_ldBS rfl (fun _ => rfl)) rfl rfl ?_
      refine TrL.op (ok_call (fun hp => ct_oVertices _) (.s rfl (fun _ => rfl) rfl <| .nil)) rfl rfl ?_
      refine TrL.op (ok_move rfl (fun _ => rfl)) rfl rfl ?_
      refine TrL.op (ok_ext rfl (fun _ => rfl) rfl) rfl rfl ?_
      refine TrL.op (ok_ext rfl (fun _ => rfl) rfl) rfl rfl ?_
      refine TrL.op (ok_assign rfl (fun _ => rfl)) rfl rfl ?_
      refine TrL.op (ok_assign rfl (fun _ => rfl)) rfl rfl ?_
      refine TrL.fin ?_
      refine End.nxt ?_
      refine Tr.seq ?_
      refine Tr.seq ?_
      refine Tr.rg ?_
      refine TrL.op (ok_ldBS rfl (fun _ => rfl)) rfl rfl ?_
      refine TrL.op (ok_call (fun hp => ct_rCheck _) (.s rfl (fun _ => rfl) rfl <| .nil)) rfl rfl ?_
      refine TrL.op (ok_assign rfl (fun _ => rfl)) rfl rfl ?_
      refine TrL.fin ?_
      refine End.nxt ?_
      refine Tr.seq ?_
      refine Tr.rg ?_
      refine TrL.op (ok_move rfl (fun _ => rfl)) rfl rfl ?_
      refine TrL.op (ok_neq rfl (fun _ => rfl) rfl (fun _ => rfl)) rfl rfl ?_
      refine TrL.fin ?_
      refine End.nxt ?_
      refine Tr.cnd rfl ?_ ?_
      · intro h8
        replace h8 := of_decide_eq_true h8
        refine Tr.seq ?_
        refine Tr.rg ?_
        refine TrL.op (ok_move rfl (fun _ => rfl)) rfl rfl ?_
        refine TrL.op (ok_move rfl (fun _ => rfl)) rfl rfl ?_
        refine TrL.op (ok_eql rfl (fun _ => rfl) rfl (fun _ => rfl)) rfl rfl ?_
        refine TrL.op (ok_move rfl (fun _ => rfl)) rfl rfl ?_
        refine TrL.gd rfl rfl rfl (ok_move rfl (fun _ => rfl)) rfl rfl ?_
        refine TrL.gd rfl rfl rfl (ok_move rfl (fun _ => rfl)) rfl rfl ?_
        refine TrL.gd rfl rfl rfl (ok_eql rfl id rfl id) rfl rfl ?_
        refine TrL.op (ok_and rfl (fun _ => rfl) rfl (fun hp h => gdT2 ((fun _ => rfl) hp) h)) rfl rfl ?_
        refine TrL.op (ok_move rfl (fun _ => rfl)) rfl rfl ?_
        refine TrL.gd rfl rfl rfl (ok_move rfl (fun _ => rfl)) rfl rfl ?_
        refine TrL.gd rfl rfl rfl (ok_lenJ rfl id) rfl rfl ?_
        refine TrL.gd rfl rfl rfl (ok_eql rfl id rfl (fun _ => rfl)) rfl rfl ?_
        refine TrL.op (ok_and rfl (fun _ => rfl) rfl (fun hp h => gdT2 ((fun _ => rfl) hp) h)) rfl rfl ?_
        refine TrL.op (ok_move rfl (fun _ => rfl)) rfl rfl ?_
        refine TrL.gd rfl rfl rfl (ok_move rfl (fun _ => rfl)) rfl rfl ?_
        refine TrL.gd rfl rfl rfl (ok_lenJ rfl id) rfl rfl ?_
        refine TrL.gd rfl rfl rfl (ok_eql rfl id rfl (fun _ => rfl)) rfl rfl ?_
        refine TrL.op (ok_and rfl (fun _ => rfl) rfl (fun hp h => gdT2 ((fun _ => rfl) hp) h)) rfl rfl ?_
        refine TrL.op (ok_assign rfl (fun _ => rfl)) rfl rfl ?_
        refine TrL.fin ?_
        refine End.nxt ?_
        refine Tr.ret ?_
        refine Rts.thn ?_
        exact Rts.res1 (fn := Try.f5) rfl (.b rfl (by simp [h8]) <| .nil)
      · intro h8
        replace h8 := Classical.not_not.1 (of_decide_eq_false h8)
        have v : Valid o := valid_of h8
        refine Tr.skip ?_
        refine End.nxt ?_
        refine Tr.seq ?_
        refine Tr.rg ?_
        refine TrL.op (ok_move rfl (fun _ => rfl)) rfl rfl ?_
        refine TrL.op (ok_eql rfl (fun _ => rfl) rfl (fun _ => rfl)) rfl rfl ?_
        refine TrL.op (ok_move rfl (fun _ => rfl)) rfl rfl ?_
        refine TrL.gd rfl rfl rfl (ok_move rfl (fun _ => rfl)) rfl rfl ?_
        refine TrL.gd rfl rfl rfl (ok_eql rfl id rfl (fun _ => rfl)) rfl rfl ?_
        refine TrL.op (ok_and rfl (fun _ => rfl) rfl (fun hp h => gdT2 ((fun _ => rfl) hp) h)) rfl rfl ?_
        refine TrL.op (ok_move rfl (fun _ => rfl)) rfl rfl ?_
        refine TrL.gd rfl rfl rfl (ok_move rfl (fun _ => rfl)) rfl rfl ?_
        refine TrL.gd rfl rfl rfl (ok_ldBS rfl (fun _ => rfl)) rfl rfl ?_
        refine TrL.gd rfl rfl rfl (ok_call (fun hp => ct_rComm _ v) (.s rfl id rfl <| .nil)) rfl rfl ?_
        refine TrL.gd rfl rfl rfl (ok_call (fun hp => ct_Ints _ _) (.a rfl id <| .a rfl id <| .nil)) rfl rfl ?_
        refine TrL.op (ok_and rfl (fun _ => rfl) rfl (fun hp h => gdT2 ((fun _ => rfl) hp) h)) rfl rfl ?_
        refine TrL.op (ok_move rfl (fun _ => rfl)) rfl rfl ?_
        refine TrL.gd rfl rfl rfl (ok_move rfl (fun _ => rfl)) rfl rfl ?_
        refine TrL.gd rfl rfl rfl (ok_ldBS rfl (fun _ => rfl)) rfl rfl ?_
        refine TrL.gd rfl rfl rfl (ok_call (fun hp => ct_rVertices _ v) (.s rfl id rfl <| .nil)) rfl rfl ?_
        refine TrL.gd rfl rfl rfl (ok_call (fun hp => ct_Lists _ _) (.a rfl id <| .a rfl id <| .nil)) rfl rfl ?_
        refine TrL.op (ok_and rfl (fun _ => rfl) rfl (fun hp h => gdT2 ((fun _ => rfl) hp) h)) rfl rfl ?_
        refine TrL.op (ok_assign rfl (fun _ => rfl)) rfl rfl ?_
        refine TrL.fin ?_
        refine End.nxt ?_
        refine Tr.ret ?_
        exact Rts.res1 (fn := Try.f5) rfl (.b rfl (by simp [h8]) <| .nil)

end Go.Fl

/- Contracts: the reference: components, errors, directions, strata. -/
namespace Go.Fl
open Go Go.Proofs


theorem tmod_lt {n m : Int} (hm : 0 < m) : -m < n.tmod m ∧ n.tmod m < m := by
  have := tmod_facts n (b := m) (by omega); omega
theorem tmod_neg {n m : Int} (hm : 0 < m) (h : n.tmod m < 0) : n.tmod m + m = n % m := by
  have h1 := tmod_facts n (b := m) (by omega)
  have h2 := Int.mul_ediv_add_emod n m
  have h3 := Int.emod_nonneg n (show m ≠ 0 by omega)
  have h4 := Int.emod_lt_of_pos n hm
  have e1 : m * (n.tdiv m - 1) = m * n.tdiv m - m := by rw [Int.mul_sub, Int.mul_one]
  have e2 : m * (n / m - n.tdiv m + 1) = n.tmod m + m - n % m := by rw [Int.mul_add, Int.mul_sub, Int.mul_one]; omega
  have : n / m - n.tdiv m + 1 = 0 := by
    rcases Int.lt_trichotomy (n / m - n.tdiv m + 1) 0 with h5 | h5 | h5
    · have := Int.mul_le_mul_of_nonneg_left (show n / m - n.tdiv m + 1 ≤ -1 by omega) (show 0 ≤ m by omega); omega
    · exact h5
    · have := Int.mul_le_mul_of_nonneg_left (show 1 ≤ n / m - n.tdiv m + 1 by omega) (show 0 ≤ m by omega); omega
  rw [this] at e2; omega
theorem tmod_pos {n m : Int} (_hm : 0 < m) (h : 0 ≤ n.tmod m) : n.tmod m = n % m := by
  rcases Int.le_total 0 n with h0 | h0
  · exact Int.tmod_eq_emod_of_nonneg h0
  · have h1 := tmod_facts n (b := m) (by omega)
    have h2 : n.tmod m = 0 := by have := h1.2.2.2.2 h0; omega
    rw [h2]
    exact (Int.emod_eq_zero_of_dvd (Int.dvd_of_tmod_eq_zero h2)).symm
theorem fl_exact (a : Int) {b : Int} (hb : 0 < b) : (a - a % b).tdiv b = a / b := by
  have h := Int.mul_ediv_add_emod a b
  rw [show a - a % b = b * (a / b) by omega, Int.mul_tdiv_cancel_left _ (by omega)]
theorem fl_bd {a b : Int} (hb : 0 < b) : -(a.natAbs : Int) - 1 ≤ a / b ∧ a / b ≤ a.natAbs := by
  have h := flo_ref a (b := b) (by omega)
  rw [if_neg (by omega), show ((b.natAbs : Nat) : Int) = b by omega] at h
  rw [← h]; exact flo_bd (by omega)

set_option maxRecDepth 100000 in
theorem ct_rComponent (o : Ori) (s : Int) (v : Valid o) (hs : Sq o.1.length s) : Ct Try.prog 86 [kRd eO o, kI s] (kRd (eL eI) (compL o s)) := by
  have hv0 := v.pos
  have hv1 := v.len
  have hv2 := v.le
  have hs0 := hs.1
  have hs1 := hs.2
  refine Ct.mk Try.func86 rfl Try.ntmps86 rfl (fun w J => ?_)
  refine Tr.seq ?_
  refine Tr.rg ?_
  refine TrL.new (ok_box 2 rfl (fun _ => rfl) rfl) rfl rfl rfl rfl ?_
  refine TrL.op (ok_assign rfl (fun _ => rfl)) rfl rfl ?_
  refine TrL.fin ?_
  refine End.nxt ?_
  refine Tr.seq ?_
  refine Tr.rg ?_
  refine TrL.op (ok_ldBS rfl (fun _ => rfl)) rfl rfl ?_
  refine TrL.op (ok_call (fun hp => ct_rSize _) (.s rfl (fun _ => rfl) rfl <| .nil)) rfl rfl ?_
  refine TrL.new (ok_makeN eBool 12 rfl (fun _ => rfl) rfl (fun _ => rfl) rfl rfl rfl (fun _ => by omega)) rfl rfl rfl rfl ?_
  refine TrL.op (ok_assign rfl (fun _ => rfl)) rfl rfl ?_
  refine TrL.fin ?_
  refine End.nxt ?_
  refine Tr.seq ?_
  refine Tr.rg ?_
  refine TrL.op (ok_move rfl (fun _ => rfl)) rfl rfl ?_
  refine TrL.op (ok_move rfl (fun _ => rfl)) rfl rfl ?_
  first | refine TrL.op (ok_idxEN rfl (fun _ => rfl) rfl (fun _ => rfl) (fun _ => by omega)) rfl rfl ?_ | refine TrL.op (ok_idxE rfl (fun _ => rfl) rfl (fun _ => rfl) (fun _ => by omega)) rfl rfl ?_
  refine TrL.stE rfl rfl rfl rfl rfl ?_
  refine TrL.fin ?_
  refine End.nxt ?_
  refine Tr.seq ?_
  refine Tr.seq ?_
  refine Tr.rg ?_
  refine TrL.op (ok_assign rfl (fun _ => rfl)) rfl rfl ?_
  refine TrL.fin ?_
  refine End.nxt ?_
  refine Tr.for1 (σ := Nat × List Int) [⟨2, true, _, _⟩, ⟨5, true, _, _⟩] [⟨2, _, _⟩] (fun (r, U) => [⟨6, true, [], kI (r : Int)⟩]) (fun (r, U) => [⟨12, [], cArr false 4 eBool (seenB o.1.length U) o.1.length⟩]) (fun (r, U) => r ≤ o.1.length ∧ RoSt o s U r) (fun (r, U) => r = o.1.length ∧ RoSt o s U r) (fun (r, U) => o.1.length - r) ((0, [s])) ⟨Nat.zero_le _, RoSt.start⟩ (Ent.mk (.i rfl (by first | rfl | omega | (simp; done) | (simp; omega) | assumption) <| .k rfl rfl <| .k rfl rfl <| .nil) (.a (by rw [seenB_nil]; exact seenB_set (S := []) hs.1) (by first | rfl | omega | (simp; done) | (simp; omega) | assumption) <| .k rfl <| .nil) rfl) ?_ ?_
  · rintro ⟨r, U⟩ ⟨hr, hro⟩
    refine Tr.norm (S' := [⟨6, true, _, _⟩, ⟨2, true, _, _⟩, ⟨5, true, _, _⟩]) (M' := [⟨12, _, _⟩, ⟨2, _, _⟩]) rfl rfl ?_
    refine Tr.seq ?_
    refine Tr.seq ?_
    refine Tr.rg ?_
    refine TrL.op (ok_move rfl (fun _ => rfl)) rfl rfl ?_
    refine TrL.op (ok_ldBS rfl (fun _ => rfl)) rfl rfl ?_
    refine TrL.op (ok_call (fun hp => ct_rSize _) (.s rfl (fun _ => rfl) rfl <| .nil)) rfl rfl ?_
    refine TrL.op (ok_lss rfl (fun _ => rfl) rfl (fun _ => rfl)) rfl rfl ?_
    refine TrL.fin ?_
    refine End.nxt ?_
    refine Tr.cnd rfl ?_ ?_
    · intro h4
      replace h4 := of_decide_eq_true h4
      refine Tr.skip ?_
      refine End.nxt ?_
      refine Tr.seq ?_
      refine Tr.blk ?_
      refine Tr.seq ?_
      refine Tr.rg ?_
      refine TrL.op (ok_assign rfl (fun _ => rfl)) rfl rfl ?_
      refine TrL.fin ?_
      refine End.nxt ?_
      refine Tr.for1 (σ := Nat × List Int) [⟨2, true, _, _⟩, ⟨5, true, _, _⟩, ⟨6, true, _, _⟩] [⟨2, _, _⟩] (fun (x, T) => [⟨7, true, [], kI (x : Int)⟩]) (fun (x, T) => [⟨12, [], cArr false 4 eBool (seenB o.1.length T) o.1.length⟩]) (fun (x, T) => x ≤ o.1.length ∧ RnSt o s U T x) (fun (x, T) => RnSt o s U T o.1.length) (fun (x, T) => o.1.length - x) ((0, U)) ⟨Nat.zero_le _, RnSt.start hro.rch⟩ (Ent.mk (.i rfl (by first | rfl | omega | (simp; done) | (simp; omega) | assumption) <| .k rfl rfl <| .k rfl rfl <| .k rfl rfl <| .nil) (.a (by first | rfl | omega | (simp; done) | (simp; omega) | assumption) (by first | rfl | omega | (simp; done) | (simp; omega) | assumption) <| .k rfl <| .nil) rfl) ?_ ?_
      · rintro ⟨x, T⟩ ⟨hx, hrn⟩
        refine Tr.norm (S' := [⟨7, true, _, _⟩, ⟨2, true, _, _⟩, ⟨5, true, _, _⟩, ⟨6, true, _, _⟩]) (M' := [⟨12, _, _⟩, ⟨2, _, _⟩]) rfl rfl ?_
        refine Tr.seq ?_
        refine Tr.seq ?_
        refine Tr.rg ?_
        refine TrL.op (ok_move rfl (fun _ => rfl)) rfl rfl ?_
        refine TrL.op (ok_ldBS rfl (fun _ => rfl)) rfl rfl ?_
        refine TrL.op (ok_call (fun hp => ct_rSize _) (.s rfl (fun _ => rfl) rfl <| .nil)) rfl rfl ?_
        refine TrL.op (ok_lss rfl (fun _ => rfl) rfl (fun _ => rfl)) rfl rfl ?_
        refine TrL.fin ?_
        refine End.nxt ?_
        refine Tr.cnd rfl ?_ ?_
        · intro h7
          replace h7 := of_decide_eq_true h7
          have hsx := nth_seenB (S := T) (show x < o.1.length by omega)
          have a1 := v.ri (i := x) (by omega)
          have a2 := v.ui (i := x) (by omega)
          refine Tr.skip ?_
          refine End.nxt ?_
          refine Tr.seq ?_
          refine Tr.blk ?_
          refine Tr.seq ?_
          refine Tr.rg ?_
          refine TrL.op (ok_move rfl (fun _ => rfl)) rfl rfl ?_
          refine TrL.op (ok_move rfl (fun _ => rfl)) rfl rfl ?_
          first | refine TrL.op (ok_idxEN rfl (fun _ => rfl) rfl (fun _ => rfl) (fun _ => by omega)) rfl rfl ?_ | refine TrL.op (ok_idxE rfl (fun _ => rfl) rfl (fun _ => rfl) (fun _ => by omega)) rfl rfl ?_
          refine TrL.op (ok_ldE rfl (fun _ => rfl) rfl rfl rfl) rfl rfl ?_
          refine TrL.fin ?_
          refine End.nxt ?_
          refine Tr.cnd rfl ?_ ?_
          · intro h9
            rw [hsx] at h9
            have hxm := of_decide_eq_true h9
            refine Tr.drawS 13 12 mixed (by kernel_rfl) ?_
            refine RunS.opA (ok_move rfl (fun _ => rfl)) (by kernel_rfl) rfl rfl ?_
            refine RunS.opA (ok_fldO rfl (fun _ => rfl)) (by kernel_rfl) rfl rfl ?_
            refine RunS.opA (ok_ldB rfl (fun _ => rfl) rfl) (by kernel_rfl) rfl rfl ?_
            refine RunS.opA (ok_move rfl (fun _ => rfl)) (by kernel_rfl) rfl rfl ?_
            first | refine RunS.opA (ok_idxN rfl (fun _ => rfl) rfl (fun _ => rfl) rfl (fun _ => by omega)) (by kernel_rfl) rfl rfl ?_ | refine RunS.opA (ok_idxP rfl (fun _ => rfl) rfl (fun _ => rfl) rfl (fun _ => by omega)) (by kernel_rfl) rfl rfl ?_
            refine RunS.opA (ok_ldP rfl (fun _ => rfl) rfl) (by kernel_rfl) rfl rfl ?_
            refine RunS.op (ok_move rfl (fun _ => rfl)) rfl rfl ?_
            refine RunS.opA (ok_fldO rfl (fun _ => rfl)) (by kernel_rfl) rfl rfl ?_
            refine RunS.opA (ok_ldB rfl (fun _ => rfl) rfl) (by kernel_rfl) rfl rfl ?_
            refine RunS.opA (ok_move rfl (fun _ => rfl)) (by kernel_rfl) rfl rfl ?_
            first | refine RunS.opA (ok_idxN rfl (fun _ => rfl) rfl (fun _ => rfl) rfl (fun _ => by omega)) (by kernel_rfl) rfl rfl ?_ | refine RunS.opA (ok_idxP rfl (fun _ => rfl) rfl (fun _ => rfl) rfl (fun _ => by omega)) (by kernel_rfl) rfl rfl ?_
            refine RunS.opA (ok_ldP rfl (fun _ => rfl) rfl) (by kernel_rfl) rfl rfl ?_
            first | refine RunS.opA (ok_idxEN rfl (fun _ => rfl) rfl (fun _ => rfl) (fun _ => by omega)) (by kernel_rfl) rfl rfl ?_ | refine RunS.opA (ok_idxE rfl (fun _ => rfl) rfl (fun _ => rfl) (fun _ => by omega)) (by kernel_rfl) rfl rfl ?_
            refine RunS.z (st_E rfl rfl rfl rfl rfl) rfl rfl rfl ?_
            first | refine TrL.op (ok_idxEN rfl (fun _ => rfl) rfl (fun _ => rfl) (fun _ => by omega)) rfl rfl ?_ | refine TrL.op (ok_idxE rfl (fun _ => rfl) rfl (fun _ => rfl) (fun _ => by omega)) rfl rfl ?_
            refine TrL.stE rfl rfl rfl rfl rfl ?_
            refine TrL.fin ?_
            refine End.blk ?_
            refine End.nxt ?_
            refine Tr.rg ?_
            refine TrL.op (ok_move rfl (fun _ => rfl)) rfl rfl ?_
            refine TrL.op (ok_add rfl (fun _ => rfl) rfl (fun _ => rfl) (fun _ => by omega)) rfl rfl ?_
            refine TrL.op (ok_assign rfl (fun _ => rfl)) rfl rfl ?_
            refine TrL.fin ?_
            exact End.lp ((x + 1, T ++ [ap o.1 x] ++ [ap o.2 x])) ⟨by omega, hrn.yes v hs hxm⟩ (show o.1.length - (x + 1) < o.1.length - x by omega) (Ent.mk (.i rfl (by first | rfl | omega | (simp; done) | (simp; omega) | assumption) <| .k rfl rfl <| .k rfl rfl <| .k rfl rfl <| .nil) (.a (by rw [seenB_set (x := nth o.1 x) (by omega), seenB_set (x := nth o.2 x) (by omega)]; rfl) (by first | rfl | omega | (simp; done) | (simp; omega) | assumption) <| .k rfl <| .nil) rfl)
          · intro h9
            rw [hsx] at h9
            have hxm := of_decide_eq_false h9
            refine Tr.skip ?_
            refine End.blk ?_
            refine End.nxt ?_
            refine Tr.rg ?_
            refine TrL.op (ok_move rfl (fun _ => rfl)) rfl rfl ?_
            refine TrL.op (ok_add rfl (fun _ => rfl) rfl (fun _ => rfl) (fun _ => by omega)) rfl rfl ?_
            refine TrL.op (ok_assign rfl (fun _ => rfl)) rfl rfl ?_
            refine TrL.fin ?_
            exact End.lp ((x + 1, T)) ⟨by omega, hrn.no hxm⟩ (show o.1.length - (x + 1) < o.1.length - x by omega) (Ent.mk (.i rfl (by first | rfl | omega | (simp; done) | (simp; omega) | assumption) <| .k rfl rfl <| .k rfl rfl <| .k rfl rfl <| .nil) (.a (by first | rfl | omega | (simp; done) | (simp; omega) | assumption) (by first | rfl | omega | (simp; done) | (simp; omega) | assumption) <| .k rfl <| .nil) rfl)
        · intro h7
          replace h7 := Int.not_lt.1 (of_decide_eq_false h7)
          refine Tr.exit ?_
          refine Exs.thn ?_
          refine Exs.thn ?_
          refine Exs.here ?_
          exact End.cut ((x, T)) (by (obtain rfl : x = o.1.length := by omega); exact hrn) (Ent.mk (.i rfl (by first | rfl | omega | (simp; done) | (simp; omega) | assumption) <| .k rfl rfl <| .k rfl rfl <| .k rfl rfl <| .nil) (.a (by first | rfl | omega | (simp; done) | (simp; omega) | assumption) (by first | rfl | omega | (simp; done) | (simp; omega) | assumption) <| .k rfl <| .nil) rfl)
      · rintro ⟨x, T⟩ hrn
        refine End.norm (S' := [⟨7, true, _, _⟩, ⟨2, true, _, _⟩, ⟨5, true, _, _⟩, ⟨6, true, _, _⟩]) (M' := [⟨12, _, _⟩, ⟨2, _, _⟩]) rfl rfl ?_
        refine End.blk ?_
        refine End.nxt ?_
        refine Tr.rg ?_
        refine TrL.op (ok_move rfl (fun _ => rfl)) rfl rfl ?_
        refine TrL.op (ok_add rfl (fun _ => rfl) rfl (fun _ => rfl) (fun _ => by omega)) rfl rfl ?_
        refine TrL.op (ok_assign rfl (fun _ => rfl)) rfl rfl ?_
        refine TrL.fin ?_
        exact End.lp ((r + 1, T)) ⟨by omega, hro.next v hs hrn⟩ (show o.1.length - (r + 1) < o.1.length - r by omega) (Ent.mk (.i rfl (by first | rfl | omega | (simp; done) | (simp; omega) | assumption) <| .k rfl rfl <| .k rfl rfl <| .nil) (.a (by first | rfl | omega | (simp; done) | (simp; omega) | assumption) (by first | rfl | omega | (simp; done) | (simp; omega) | assumption) <| .k rfl <| .nil) rfl)
    · intro h4
      replace h4 := Int.not_lt.1 (of_decide_eq_false h4)
      refine Tr.exit ?_
      refine Exs.thn ?_
      refine Exs.thn ?_
      refine Exs.here ?_
      exact End.cut ((r, U)) ⟨by omega, hro⟩ (Ent.mk (.i rfl (by first | rfl | omega | (simp; done) | (simp; omega) | assumption) <| .k rfl rfl <| .k rfl rfl <| .nil) (.a (by first | rfl | omega | (simp; done) | (simp; omega) | assumption) (by first | rfl | omega | (simp; done) | (simp; omega) | assumption) <| .k rfl <| .nil) rfl)
  · rintro ⟨r, U⟩ ⟨hE0, hro⟩
    refine End.norm (S' := [⟨6, true, _, _⟩, ⟨2, true, _, _⟩, ⟨5, true, _, _⟩]) (M' := [⟨12, _, _⟩, ⟨2, _, _⟩]) rfl rfl ?_
    refine End.nxt ?_
    refine Tr.seq ?_
    refine Tr.rg ?_
    refine TrL.op (ok_assign rfl (fun _ => rfl)) rfl rfl ?_
    refine TrL.fin ?_
    refine End.nxt ?_
    refine Tr.seq ?_
    refine Tr.seq ?_
    refine Tr.rg ?_
    refine TrL.op (ok_assign rfl (fun _ => rfl)) rfl rfl ?_
    refine TrL.fin ?_
    refine End.nxt ?_
    refine Tr.grow (s := 8) rfl rfl 8 rfl 3 eI rfl ?_
    refine Tr.for1 (σ := Nat) [⟨2, true, _, _⟩, ⟨5, true, _, _⟩] [⟨2, _, _⟩, ⟨12, _, _⟩] (fun k => [⟨8, true, [8], kOsl 8 (ascK U k).length⟩, ⟨9, true, [], kI (k : Int)⟩]) (fun k => [⟨8, [], cArr true 3 eI (ascK U k) (ascK U k).length⟩]) (fun k => k ≤ o.1.length) (fun k => k = o.1.length) (fun k => o.1.length - k) (0) (Nat.zero_le _) (Ent.mk (.o rfl (by first | rfl | omega | (simp; done) | (simp; omega) | assumption) rfl <| .i rfl (by first | rfl | omega | (simp; done) | (simp; omega) | assumption) <| .k rfl rfl <| .k rfl rfl <| .nil) (.a (by first | rfl | omega | (simp; done) | (simp; omega) | assumption) (by first | rfl | omega | (simp; done) | (simp; omega) | assumption) <| .k rfl <| .k rfl <| .nil) rfl) ?_ ?_
    · intro k hR2
      refine Tr.norm (S' := [⟨8, true, _, _⟩, ⟨9, true, _, _⟩, ⟨2, true, _, _⟩, ⟨5, true, _, _⟩]) (M' := [⟨8, _, _⟩, ⟨2, _, _⟩, ⟨12, _, _⟩]) rfl rfl ?_
      have hal := ascK_len (l := U) (k := k)
      refine Tr.seq ?_
      refine Tr.seq ?_
      refine Tr.rg ?_
      refine TrL.op (ok_move rfl (fun _ => rfl)) rfl rfl ?_
      refine TrL.op (ok_ldBS rfl (fun _ => rfl)) rfl rfl ?_
      refine TrL.op (ok_call (fun hp => ct_rSize _) (.s rfl (fun _ => rfl) rfl <| .nil)) rfl rfl ?_
      refine TrL.op (ok_lss rfl (fun _ => rfl) rfl (fun _ => rfl)) rfl rfl ?_
      refine TrL.fin ?_
      refine End.nxt ?_
      refine Tr.cnd rfl ?_ ?_
      · intro h13
        replace h13 := of_decide_eq_true h13
        have hsk := nth_seenB (S := U) (show k < o.1.length by omega)
        refine Tr.skip ?_
        refine End.nxt ?_
        refine Tr.seq ?_
        refine Tr.blk ?_
        refine Tr.seq ?_
        refine Tr.rg ?_
        refine TrL.op (ok_move rfl (fun _ => rfl)) rfl rfl ?_
        refine TrL.op (ok_move rfl (fun _ => rfl)) rfl rfl ?_
        first | refine TrL.op (ok_idxEN rfl (fun _ => rfl) rfl (fun _ => rfl) (fun _ => by omega)) rfl rfl ?_ | refine TrL.op (ok_idxE rfl (fun _ => rfl) rfl (fun _ => rfl) (fun _ => by omega)) rfl rfl ?_
        refine TrL.op (ok_ldE rfl (fun _ => rfl) rfl rfl rfl) rfl rfl ?_
        refine TrL.fin ?_
        refine End.nxt ?_
        refine Tr.cnd rfl ?_ ?_
        · intro h15
          rw [hsk] at h15
          have hkm := of_decide_eq_true h15
          refine Tr.rg ?_
          refine TrL.op (ok_move rfl (fun _ => rfl)) rfl rfl ?_
          refine TrL.op (ok_move rfl (fun _ => rfl)) rfl rfl ?_
          refine TrL.new (ok_bsl eI 58 (fun hp => .cons rfl <| .nil) rfl rfl rfl rfl) rfl rfl rfl rfl ?_
          refine TrL.app rfl rfl rfl rfl rfl rfl rfl rfl (by first | omega | (simp only [List.length_cons, List.length_nil]; omega)) (by first | omega | (simp only [List.length_cons, List.length_nil]; omega)) ?_
          refine TrL.norm (S' := [⟨_, _, _, _⟩, ⟨_, _, _, _⟩, ⟨_, _, _, _⟩, ⟨_, _, _, _⟩, ⟨_, _, _, _⟩, ⟨_, _, _, _⟩, ⟨_, _, _, _⟩, ⟨_, _, _, _⟩, ⟨_, _, _, _⟩, ⟨_, _, _, _⟩, ⟨_, _, _, _⟩, ⟨_, _, _, _⟩, ⟨_, _, _, _⟩, ⟨_, _, _, _⟩, ⟨_, _, _, _⟩, ⟨_, _, _, _⟩]) rfl rfl ?_
          refine TrL.op (ok_assign rfl (fun _ => rfl)) rfl rfl ?_
          refine TrL.fin ?_
          refine End.blk ?_
          refine End.nxt ?_
          refine Tr.rg ?_
          refine TrL.op (ok_move rfl (fun _ => rfl)) rfl rfl ?_
          refine TrL.op (ok_add rfl (fun _ => rfl) rfl (fun _ => rfl) (fun _ => by omega)) rfl rfl ?_
          refine TrL.op (ok_assign rfl (fun _ => rfl)) rfl rfl ?_
          refine TrL.fin ?_
          exact End.lp (k + 1) (by first | rfl | omega | (simp; done) | (simp; omega) | assumption) (by omega) (Ent.mk (.o rfl (by rw [ascK_in hkm, List.length_append]) rfl <| .i rfl (by first | rfl | omega | (simp; done) | (simp; omega) | assumption) <| .k rfl rfl <| .k rfl rfl <| .nil) (.a (by rw [ascK_in hkm]) (by rw [ascK_in hkm, List.length_append]) <| .k rfl <| .k rfl <| .nil) rfl)
        · intro h15
          rw [hsk] at h15
          have hkm := of_decide_eq_false h15
          refine Tr.skip ?_
          refine End.blk ?_
          refine End.nxt ?_
          refine Tr.rg ?_
          refine TrL.op (ok_move rfl (fun _ => rfl)) rfl rfl ?_
          refine TrL.op (ok_add rfl (fun _ => rfl) rfl (fun _ => rfl) (fun _ => by omega)) rfl rfl ?_
          refine TrL.op (ok_assign rfl (fun _ => rfl)) rfl rfl ?_
          refine TrL.fin ?_
          exact End.lp (k + 1) (by first | rfl | omega | (simp; done) | (simp; omega) | assumption) (by omega) (Ent.mk (.o rfl (by rw [ascK_out hkm]) rfl <| .i rfl (by first | rfl | omega | (simp; done) | (simp; omega) | assumption) <| .k rfl rfl <| .k rfl rfl <| .nil) (.a (by rw [ascK_out hkm]) (by rw [ascK_out hkm]) <| .k rfl <| .k rfl <| .nil) rfl)
      · intro h13
        replace h13 := Int.not_lt.1 (of_decide_eq_false h13)
        refine Tr.exit ?_
        refine Exs.thn ?_
        refine Exs.thn ?_
        refine Exs.here ?_
        exact End.cut (k) (by omega) (Ent.mk (.o rfl (by first | rfl | omega | (simp; done) | (simp; omega) | assumption) rfl <| .i rfl (by first | rfl | omega | (simp; done) | (simp; omega) | assumption) <| .k rfl rfl <| .k rfl rfl <| .nil) (.a (by first | rfl | omega | (simp; done) | (simp; omega) | assumption) (by first | rfl | omega | (simp; done) | (simp; omega) | assumption) <| .k rfl <| .k rfl <| .nil) rfl)
    · rintro _ rfl
      refine End.norm (S' := [⟨8, true, _, _⟩, ⟨9, true, _, _⟩, ⟨2, true, _, _⟩, ⟨5, true, _, _⟩]) (M' := [⟨8, _, _⟩, ⟨2, _, _⟩, ⟨12, _, _⟩]) rfl rfl ?_
      have hal := ascK_len (l := U) (k := o.1.length)
      refine End.nxt ?_
      refine Tr.seq ?_
      refine Tr.rg ?_
      refine TrL.op (ok_move rfl (fun _ => rfl)) rfl rfl ?_
      refine TrL.op (ok_assign rfl (fun _ => rfl)) rfl rfl ?_
      refine TrL.fin ?_
      refine End.nxt ?_
      refine Tr.frz 8 [4] ⟨rfl, trivial⟩ (by simp only [lenMax]; omega) rfl ?_
      refine Tr.ret ?_
      exact Rts.res1 (fn := Try.f86) rfl (.r rfl (by rw [hE0] at hro; exact hro.fin v hs) <| .nil)

set_option maxRecDepth 100000 in
theorem ct_rComponents (o : Ori) (v : Valid o) : Ct Try.prog 37 [kRd eO o] (kRd (eL (eL eI)) (comps o o.1.length)) := by
  have hv0 := v.pos
  have hv1 := v.len
  have hv2 := v.le
  refine Ct.mk Try.func37 rfl Try.ntmps37 rfl (fun w J => ?_)
  refine Tr.seq ?_
  refine Tr.rg ?_
  refine TrL.new (ok_box 1 rfl (fun _ => rfl) rfl) rfl rfl rfl rfl ?_
  refine TrL.op (ok_assign rfl (fun _ => rfl)) rfl rfl ?_
  refine TrL.fin ?_
  refine End.nxt ?_
  refine Tr.seq ?_
  refine Tr.rg ?_
  refine TrL.op (ok_assign rfl (fun _ => rfl)) rfl rfl ?_
  refine TrL.fin ?_
  refine End.nxt ?_
  refine Tr.seq ?_
  refine Tr.seq ?_
  refine Tr.rg ?_
  refine TrL.op (ok_assign rfl (fun _ => rfl)) rfl rfl ?_
  refine TrL.fin ?_
  refine End.nxt ?_
  refine Tr.grow (s := 3) rfl rfl 3 rfl 22 (eL eI) rfl ?_
  refine Tr.for1 (σ := Nat) [⟨1, true, _, _⟩] [⟨1, _, _⟩] (fun k => [⟨3, true, [3], kOsl 3 (comps o k).length⟩, ⟨4, true, [], kI (k : Int)⟩]) (fun k => [⟨3, [], cArr true 22 (eL eI) (comps o k) (comps o k).length⟩]) (fun k => k ≤ o.1.length) (fun k => k = o.1.length) (fun k => o.1.length - k) (0) (Nat.zero_le _) (Ent.mk (.o rfl (by first | rfl | omega | (simp; done) | (simp; omega) | assumption) rfl <| .i rfl (by first | rfl | omega | (simp; done) | (simp; omega) | assumption) <| .k rfl rfl <| .nil) (.a (by first | rfl | omega | (simp; done) | (simp; omega) | assumption) (by first | rfl | omega | (simp; done) | (simp; omega) | assumption) <| .k rfl <| .nil) rfl) ?_ ?_
  · intro k hR0
    refine Tr.norm (S' := [⟨3, true, _, _⟩, ⟨4, true, _, _⟩, ⟨1, true, _, _⟩]) (M' := [⟨3, _, _⟩, ⟨1, _, _⟩]) rfl rfl ?_
    have hcl := comps_len (o := o) (k := k)
    refine Tr.seq ?_
    refine Tr.seq ?_
    refine Tr.rg ?_
    refine TrL.op (ok_move rfl (fun _ => rfl)) rfl rfl ?_
    refine TrL.op (ok_ldBS rfl (fun _ => rfl)) rfl rfl ?_
    refine TrL.op (ok_call (fun hp => ct_rSize _) (.s rfl (fun _ => rfl) rfl <| .nil)) rfl rfl ?_
    refine TrL.op (ok_lss rfl (fun _ => rfl) rfl (fun _ => rfl)) rfl rfl ?_
    refine TrL.fin ?_
    refine End.nxt ?_
    refine Tr.cnd rfl ?_ ?_
    · intro h3
      replace h3 := of_decide_eq_true h3
      have hk : k < o.1.length := by omega
      have hcp := compL_pos v (Sq.nat hk)
      have hhd := compL_head v hk
      refine Tr.skip ?_
      refine End.nxt ?_
      refine Tr.seq ?_
      refine Tr.blk ?_
      refine Tr.seq ?_
      refine Tr.rg ?_
      refine TrL.op (ok_ldBS rfl (fun _ => rfl)) rfl rfl ?_
      refine TrL.op (ok_move rfl (fun _ => rfl)) rfl rfl ?_
      refine TrL.op (ok_call (fun hp => ct_rComponent _ _ v (Sq.nat hk)) (.s rfl (fun _ => rfl) rfl <| .a rfl (fun _ => rfl) <| .nil)) rfl rfl ?_
      refine TrL.op (ok_assign rfl (fun _ => rfl)) rfl rfl ?_
      refine TrL.fin ?_
      refine End.nxt ?_
      refine Tr.seq ?_
      refine Tr.rg ?_
      refine TrL.op (ok_move rfl (fun _ => rfl)) rfl rfl ?_
      first | refine TrL.op (ok_idxN rfl (fun _ => rfl) rfl (fun _ => rfl) rfl (fun _ => by omega)) rfl rfl ?_ | refine TrL.op (ok_idxP rfl (fun _ => rfl) rfl (fun _ => rfl) rfl (fun _ => by omega)) rfl rfl ?_
      refine TrL.op (ok_ldP rfl (fun _ => rfl) rfl) rfl rfl ?_
      refine TrL.op (ok_move rfl (fun _ => rfl)) rfl rfl ?_
      refine TrL.op (ok_eql rfl (fun _ => rfl) rfl (fun _ => rfl)) rfl rfl ?_
      refine TrL.fin ?_
      refine End.nxt ?_
      refine Tr.cnd rfl ?_ ?_
      · intro h6
        replace h6 := of_decide_eq_true h6
        have hm := hhd.1 h6
        refine Tr.rg ?_
        refine TrL.op (ok_move rfl (fun _ => rfl)) rfl rfl ?_
        refine TrL.op (ok_move rfl (fun _ => rfl)) rfl rfl ?_
        refine TrL.new (ok_bsl (eL eI) 22 (fun hp => .cons rfl <| .nil) rfl rfl rfl rfl) rfl rfl rfl rfl ?_
        refine TrL.app rfl rfl rfl rfl rfl rfl rfl rfl (by first | omega | (simp only [List.length_cons, List.length_nil]; omega)) (by first | omega | (simp only [List.length_cons, List.length_nil]; omega)) ?_
        refine TrL.norm (S' := [⟨_, _, _, _⟩, ⟨_, _, _, _⟩, ⟨_, _, _, _⟩, ⟨_, _, _, _⟩, ⟨_, _, _, _⟩, ⟨_, _, _, _⟩, ⟨_, _, _, _⟩, ⟨_, _, _, _⟩, ⟨_, _, _, _⟩, ⟨_, _, _, _⟩, ⟨_, _, _, _⟩, ⟨_, _, _, _⟩, ⟨_, _, _, _⟩, ⟨_, _, _, _⟩, ⟨_, _, _, _⟩, ⟨_, _, _, _⟩, ⟨_, _, _, _⟩, ⟨_, _, _, _⟩, ⟨_, _, _, _⟩, ⟨_, _, _, _⟩]) rfl rfl ?_
        refine TrL.op (ok_assign rfl (fun _ => rfl)) rfl rfl ?_
        refine TrL.fin ?_
        refine End.blk ?_
        refine End.nxt ?_
        refine Tr.rg ?_
        refine TrL.op (ok_move rfl (fun _ => rfl)) rfl rfl ?_
        refine TrL.op (ok_add rfl (fun _ => rfl) rfl (fun _ => rfl) (fun _ => by omega)) rfl rfl ?_
        refine TrL.op (ok_assign rfl (fun _ => rfl)) rfl rfl ?_
        refine TrL.fin ?_
        exact End.lp (k + 1) (by first | rfl | omega | (simp; done) | (simp; omega) | assumption) (by omega) (Ent.mk (.o rfl (by rw [comps_new hm, List.length_append]) rfl <| .i rfl (by first | rfl | omega | (simp; done) | (simp; omega) | assumption) <| .k rfl rfl <| .nil) (.a (by rw [comps_new hm]) (by rw [comps_new hm, List.length_append]) <| .k rfl <| .nil) rfl)
      · intro h6
        replace h6 := of_decide_eq_false h6
        have hm := Classical.not_not.1 (fun hh => h6 (hhd.2 hh))
        refine Tr.skip ?_
        refine End.blk ?_
        refine End.nxt ?_
        refine Tr.rg ?_
        refine TrL.op (ok_move rfl (fun _ => rfl)) rfl rfl ?_
        refine TrL.op (ok_add rfl (fun _ => rfl) rfl (fun _ => rfl) (fun _ => by omega)) rfl rfl ?_
        refine TrL.op (ok_assign rfl (fun _ => rfl)) rfl rfl ?_
        refine TrL.fin ?_
        exact End.lp (k + 1) (by first | rfl | omega | (simp; done) | (simp; omega) | assumption) (by omega) (Ent.mk (.o rfl (by rw [comps_in hm]) rfl <| .i rfl (by first | rfl | omega | (simp; done) | (simp; omega) | assumption) <| .k rfl rfl <| .nil) (.a (by rw [comps_in hm]) (by rw [comps_in hm]) <| .k rfl <| .nil) rfl)
    · intro h3
      replace h3 := Int.not_lt.1 (of_decide_eq_false h3)
      refine Tr.exit ?_
      refine Exs.thn ?_
      refine Exs.thn ?_
      refine Exs.here ?_
      exact End.cut (k) (by omega) (Ent.mk (.o rfl (by first | rfl | omega | (simp; done) | (simp; omega) | assumption) rfl <| .i rfl (by first | rfl | omega | (simp; done) | (simp; omega) | assumption) <| .k rfl rfl <| .nil) (.a (by first | rfl | omega | (simp; done) | (simp; omega) | assumption) (by first | rfl | omega | (simp; done) | (simp; omega) | assumption) <| .k rfl <| .nil) rfl)
  · rintro _ rfl
    refine End.norm (S' := [⟨3, true, _, _⟩, ⟨4, true, _, _⟩, ⟨1, true, _, _⟩]) (M' := [⟨3, _, _⟩, ⟨1, _, _⟩]) rfl rfl ?_
    have hcl := comps_len (o := o) (k := o.1.length)
    refine End.nxt ?_
    refine Tr.seq ?_
    refine Tr.rg ?_
    refine TrL.op (ok_move rfl (fun _ => rfl)) rfl rfl ?_
    refine TrL.op (ok_assign rfl (fun _ => rfl)) rfl rfl ?_
    refine TrL.fin ?_
    refine End.nxt ?_
    refine Tr.frz 3 [2] ⟨rfl, trivial⟩ (by simp only [lenMax]; omega) rfl ?_
    refine Tr.ret ?_
    exact Rts.res1 (fn := Try.f37) rfl (.r rfl (by first | rfl | omega | (simp; done) | (simp; omega) | assumption) <| .nil)

set_option maxRecDepth 100000 in
theorem ct_rConnected (o : Ori) (v : Valid o) : Ct Try.prog 70 [kRd eO o] (kB (decide ((comps o o.1.length).length = 1))) := by
  refine Ct.mk Try.func70 rfl Try.ntmps70 rfl (fun w J => ?_)
  refine Tr.seq ?_
  refine Tr.rg ?_
  refine TrL.new (ok_box 1 rfl (fun _ => rfl) rfl) rfl rfl rfl rfl ?_
  refine TrL.op (ok_assign rfl (fun _ => rfl)) rfl rfl ?_
  refine TrL.fin ?_
  refine End.nxt ?_
  refine Tr.seq ?_
  refine Tr.rg ?_
  refine TrL.op (ok_ldBS rfl (fun _ => rfl)) rfl rfl ?_
  refine TrL.op (ok_call (fun hp => ct_rComponents _ v) (.s rfl (fun _ => rfl) rfl <| .nil)) rfl rfl ?_
  refine TrL.op (ok_lenJ rfl (fun _ => rfl)) rfl rfl ?_
  refine TrL.op (ok_eql rfl (fun _ => rfl) rfl (fun _ => rfl)) rfl rfl ?_
  refine TrL.op (ok_assign rfl (fun _ => rfl)) rfl rfl ?_
  refine TrL.fin ?_
  refine End.nxt ?_
  refine Tr.ret ?_
  exact Rts.res1 (fn := Try.f70) rfl (.b rfl (by rw [Bool.eq_iff_iff]; simp; omega) <| .nil)

set_option maxRecDepth 100000 in
theorem ct_rCheckOne (o : Ori) : Ct Try.prog 17 [kRd eO o] (kI (chk1 o)) := by
  refine Ct.mk Try.func17 rfl Try.ntmps17 rfl (fun w J => ?_)
  refine Tr.seq ?_
  refine Tr.rg ?_
  refine TrL.new (ok_box 1 rfl (fun _ => rfl) rfl) rfl rfl rfl rfl ?_
  refine TrL.op (ok_assign rfl (fun _ => rfl)) rfl rfl ?_
  refine TrL.fin ?_
  refine End.nxt ?_
  refine Tr.seq ?_
  refine Tr.seq ?_
  refine Tr.rg ?_
  refine TrL.op (ok_ldBS rfl (fun _ => rfl)) rfl rfl ?_
  refine TrL.op (ok_call (fun hp => ct_rCheck _) (.s rfl (fun _ => rfl) rfl <| .nil)) rfl rfl ?_
  refine TrL.op (ok_assign rfl (fun _ => rfl)) rfl rfl ?_
  refine TrL.fin ?_
  refine End.nxt ?_
  refine Tr.seq ?_
  refine Tr.rg ?_
  refine TrL.op (ok_move rfl (fun _ => rfl)) rfl rfl ?_
  refine TrL.op (ok_neq rfl (fun _ => rfl) rfl (fun _ => rfl)) rfl rfl ?_
  refine TrL.fin ?_
  refine End.nxt ?_
  refine Tr.cnd rfl ?_ ?_
  · intro h2
    replace h2 := of_decide_eq_true h2
    refine Tr.seq ?_
    refine Tr.rg ?_
    refine TrL.op (ok_move rfl (fun _ => rfl)) rfl rfl ?_
    refine TrL.op (ok_assign rfl (fun _ => rfl)) rfl rfl ?_
    refine TrL.fin ?_
    refine End.nxt ?_
    refine Tr.ret ?_
    refine Rts.thn ?_
    exact Rts.res1 (fn := Try.f17) rfl (.i rfl (by unfold chk1; rw [orE_l h2]) <| .nil)
  · intro h2
    replace h2 := Classical.not_not.1 (of_decide_eq_false h2)
    have v : Valid o := valid_of h2
    have hcp := comps_pos v
    refine Tr.skip ?_
    refine End.nxt ?_
    refine Tr.seq ?_
    refine Tr.seq ?_
    refine Tr.rg ?_
    refine TrL.op (ok_ldBS rfl (fun _ => rfl)) rfl rfl ?_
    refine TrL.op (ok_call (fun hp => ct_rConnected _ v) (.s rfl (fun _ => rfl) rfl <| .nil)) rfl rfl ?_
    refine TrL.op (ok_not rfl (fun _ => rfl)) rfl rfl ?_
    refine TrL.fin ?_
    refine End.nxt ?_
    refine Tr.cnd rfl ?_ ?_
    · intro h4
      have h4b : (comps o o.1.length).length ≠ 1 := by simpa using h4
      refine Tr.seq ?_
      refine Tr.rg ?_
      refine TrL.op (ok_assign rfl (fun _ => rfl)) rfl rfl ?_
      refine TrL.fin ?_
      refine End.nxt ?_
      refine Tr.ret ?_
      refine Rts.thn ?_
      exact Rts.res1 (fn := Try.f17) rfl (.i rfl (by unfold chk1; rw [orE_r h2, splE_pos (by omega)]) <| .nil)
    · intro h4
      have h4b : (comps o o.1.length).length = 1 := by simpa using h4
      refine Tr.skip ?_
      refine End.nxt ?_
      refine Tr.seq ?_
      refine Tr.rg ?_
      refine TrL.op (ok_assign rfl (fun _ => rfl)) rfl rfl ?_
      refine TrL.fin ?_
      refine End.nxt ?_
      refine Tr.ret ?_
      exact Rts.res1 (fn := Try.f17) rfl (.i rfl (by unfold chk1; rw [orE_r h2, splE_zero (by omega)]) <| .nil)

set_option maxRecDepth 100000 in
theorem ct_rCheckTwo (a b : Ori) : Ct Try.prog 54 [kRd eO a, kRd eO b] (kI (chk2 a b)) := by
  refine Ct.mk Try.func54 rfl Try.ntmps54 rfl (fun w J => ?_)
  refine Tr.seq ?_
  refine Tr.rg ?_
  refine TrL.new (ok_box 2 rfl (fun _ => rfl) rfl) rfl rfl rfl rfl ?_
  refine TrL.new (ok_box 3 rfl (fun _ => rfl) rfl) rfl rfl rfl rfl ?_
  refine TrL.op (ok_assign rfl (fun _ => rfl)) rfl rfl ?_
  refine TrL.fin ?_
  refine End.nxt ?_
  refine Tr.seq ?_
  refine Tr.seq ?_
  refine Tr.rg ?_
  refine TrL.op (ok_ldBS rfl (fun _ => rfl)) rfl rfl ?_
  refine TrL.op (ok_call (fun hp => ct_rCheck _) (.s rfl (fun _ => rfl) rfl <| .nil)) rfl rfl ?_
  refine TrL.op (ok_assign rfl (fun _ => rfl)) rfl rfl ?_
  refine TrL.fin ?_
  refine End.nxt ?_
  refine Tr.seq ?_
  refine Tr.rg ?_
  refine TrL.op (ok_move rfl (fun _ => rfl)) rfl rfl ?_
  refine TrL.op (ok_neq rfl (fun _ => rfl) rfl (fun _ => rfl)) rfl rfl ?_
  refine TrL.fin ?_
  refine End.nxt ?_
  refine Tr.cnd rfl ?_ ?_
  · intro h2
    replace h2 := of_decide_eq_true h2
    refine Tr.seq ?_
    refine Tr.rg ?_
    refine TrL.op (ok_move rfl (fun _ => rfl)) rfl rfl ?_
    refine TrL.op (ok_assign rfl (fun _ => rfl)) rfl rfl ?_
    refine TrL.fin ?_
    refine End.nxt ?_
    refine Tr.ret ?_
    refine Rts.thn ?_
    exact Rts.res1 (fn := Try.f54) rfl (.i rfl (by unfold chk2; rw [orE_l h2]) <| .nil)
  · intro h2
    replace h2 := Classical.not_not.1 (of_decide_eq_false h2)
    have va : Valid a := valid_of h2
    have hca := comps_pos va
    refine Tr.skip ?_
    refine End.nxt ?_
    refine Tr.seq ?_
    refine Tr.seq ?_
    refine Tr.rg ?_
    refine TrL.op (ok_ldBS rfl (fun _ => rfl)) rfl rfl ?_
    refine TrL.op (ok_call (fun hp => ct_rCheck _) (.s rfl (fun _ => rfl) rfl <| .nil)) rfl rfl ?_
    refine TrL.op (ok_assign rfl (fun _ => rfl)) rfl rfl ?_
    refine TrL.fin ?_
    refine End.nxt ?_
    refine Tr.seq ?_
    refine Tr.rg ?_
    refine TrL.op (ok_move rfl (fun _ => rfl)) rfl rfl ?_
    refine TrL.op (ok_neq rfl (fun _ => rfl) rfl (fun _ => rfl)) rfl rfl ?_
    refine TrL.fin ?_
    refine End.nxt ?_
    refine Tr.cnd rfl ?_ ?_
    · intro h5
      replace h5 := of_decide_eq_true h5
      refine Tr.seq ?_
      refine Tr.rg ?_
      refine TrL.op (ok_move rfl (fun _ => rfl)) rfl rfl ?_
      refine TrL.op (ok_assign rfl (fun _ => rfl)) rfl rfl ?_
      refine TrL.fin ?_
      refine End.nxt ?_
      refine Tr.ret ?_
      refine Rts.thn ?_
      exact Rts.res1 (fn := Try.f54) rfl (.i rfl (by unfold chk2; rw [orE_r h2, orE_l h5]) <| .nil)
    · intro h5
      replace h5 := Classical.not_not.1 (of_decide_eq_false h5)
      have vb : Valid b := valid_of h5
      have hcb := comps_pos vb
      refine Tr.skip ?_
      refine End.nxt ?_
      refine Tr.seq ?_
      refine Tr.seq ?_
      refine Tr.rg ?_
      refine TrL.op (ok_ldBS rfl (fun _ => rfl)) rfl rfl ?_
      refine TrL.op (ok_call (fun hp => ct_rConnected _ va) (.s rfl (fun _ => rfl) rfl <| .nil)) rfl rfl ?_
      refine TrL.op (ok_not rfl (fun _ => rfl)) rfl rfl ?_
      refine TrL.op (ok_move rfl (fun _ => rfl)) rfl rfl ?_
      refine TrL.gd rfl rfl rfl (ok_ldBS rfl (fun _ => rfl)) rfl rfl ?_
      refine TrL.gd rfl rfl rfl (ok_call (fun hp => ct_rConnected _ vb) (.s rfl id rfl <| .nil)) rfl rfl ?_
      refine TrL.gd rfl rfl rfl (ok_not rfl id) rfl rfl ?_
      refine TrL.op (ok_or rfl (fun _ => rfl) rfl (fun hp h => gdF2 ((fun _ => rfl) hp) h)) rfl rfl ?_
      refine TrL.fin ?_
      refine End.nxt ?_
      refine Tr.cnd rfl ?_ ?_
      · intro h7
        simp at h7
        refine Tr.seq ?_
        refine Tr.rg ?_
        refine TrL.op (ok_assign rfl (fun _ => rfl)) rfl rfl ?_
        refine TrL.fin ?_
        refine End.nxt ?_
        refine Tr.ret ?_
        refine Rts.thn ?_
        exact Rts.res1 (fn := Try.f54) rfl (.i rfl (by unfold chk2; rw [orE_r h2, orE_r h5, if_pos (by omega)]) <| .nil)
      · intro h7
        simp at h7
        refine Tr.skip ?_
        refine End.nxt ?_
        refine Tr.seq ?_
        refine Tr.rg ?_
        refine TrL.op (ok_assign rfl (fun _ => rfl)) rfl rfl ?_
        refine TrL.fin ?_
        refine End.nxt ?_
        refine Tr.ret ?_
        exact Rts.res1 (fn := Try.f54) rfl (.i rfl (by unfold chk2; rw [orE_r h2, orE_r h5, if_neg (by omega)]) <| .nil)

set_option maxRecDepth 100000 in
theorem ct_Mod (n m : Int) (hm : 0 < m) (h1 : m ≤ 4611686018427387904) : Ct Try.prog 117 [kI n, kI m] (kI (n % m)) := by
  have hr := tmod_lt (n := n) hm
  refine Ct.mk Try.func117 rfl Try.ntmps117 rfl (fun w J => ?_)
  refine Tr.seq ?_
  refine Tr.rg ?_
  refine TrL.op (ok_assign rfl (fun _ => rfl)) rfl rfl ?_
  refine TrL.fin ?_
  refine End.nxt ?_
  refine Tr.seq ?_
  refine Tr.rg ?_
  refine TrL.op (ok_move rfl (fun _ => rfl)) rfl rfl ?_
  refine TrL.op (ok_move rfl (fun _ => rfl)) rfl rfl ?_
  refine TrL.op (ok_rem rfl (fun _ => rfl) rfl (fun _ => rfl) (fun _ => by omega)) rfl rfl ?_
  refine TrL.op (ok_assign rfl (fun _ => rfl)) rfl rfl ?_
  refine TrL.fin ?_
  refine End.nxt ?_
  refine Tr.seq ?_
  refine Tr.seq ?_
  refine Tr.rg ?_
  refine TrL.op (ok_move rfl (fun _ => rfl)) rfl rfl ?_
  refine TrL.op (ok_lss rfl (fun _ => rfl) rfl (fun _ => rfl)) rfl rfl ?_
  refine TrL.fin ?_
  refine End.nxt ?_
  refine Tr.cnd rfl ?_ ?_
  · intro h2
    replace h2 := of_decide_eq_true h2
    refine Tr.rg ?_
    refine TrL.op (ok_move rfl (fun _ => rfl)) rfl rfl ?_
    refine TrL.op (ok_move rfl (fun _ => rfl)) rfl rfl ?_
    refine TrL.op (ok_add rfl (fun _ => rfl) rfl (fun _ => rfl) (fun _ => by omega)) rfl rfl ?_
    refine TrL.op (ok_assign rfl (fun _ => rfl)) rfl rfl ?_
    refine TrL.fin ?_
    refine End.nxt ?_
    refine Tr.seq ?_
    refine Tr.rg ?_
    refine TrL.op (ok_move rfl (fun _ => rfl)) rfl rfl ?_
    refine TrL.op (ok_assign rfl (fun _ => rfl)) rfl rfl ?_
    refine TrL.fin ?_
    refine End.nxt ?_
    refine Tr.ret ?_
    exact Rts.res1 (fn := Try.f117) rfl (.i rfl (tmod_neg hm h2) <| .nil)
  · intro h2
    replace h2 := Int.not_lt.1 (of_decide_eq_false h2)
    refine Tr.skip ?_
    refine End.nxt ?_
    refine Tr.seq ?_
    refine Tr.rg ?_
    refine TrL.op (ok_move rfl (fun _ => rfl)) rfl rfl ?_
    refine TrL.op (ok_assign rfl (fun _ => rfl)) rfl rfl ?_
    refine TrL.fin ?_
    refine End.nxt ?_
    refine Tr.ret ?_
    exact Rts.res1 (fn := Try.f117) rfl (.i rfl (tmod_pos hm (by omega)) <| .nil)

set_option maxRecDepth 100000 in
theorem ct_bGcd (a b : Int) (ha : -9223372036854775807 ≤ a ∧ a ≤ 9223372036854775807) (hb : -9223372036854775807 ≤ b ∧ b ≤ 9223372036854775807) : Ct Try.prog 25 [kI a, kI b] (kI (Int.gcd a b : Int)) := by
  refine Ct.mk Try.func25 rfl Try.ntmps25 rfl (fun w J => ?_)
  refine Tr.seq ?_
  refine Tr.rg ?_
  refine TrL.op (ok_assign rfl (fun _ => rfl)) rfl rfl ?_
  refine TrL.fin ?_
  refine End.nxt ?_
  refine Tr.seq ?_
  refine Tr.rg ?_
  refine TrL.op (ok_move rfl (fun _ => rfl)) rfl rfl ?_
  refine TrL.op (ok_call (fun hp => ct_Abs _ (by omega)) (.a rfl (fun _ => rfl) <| .nil)) rfl rfl ?_
  refine TrL.op (ok_move rfl (fun _ => rfl)) rfl rfl ?_
  refine TrL.op (ok_call (fun hp => ct_Abs _ (by omega)) (.a rfl (fun _ => rfl) <| .nil)) rfl rfl ?_
  refine TrL.op (ok_assign rfl (fun _ => rfl)) rfl rfl ?_
  refine TrL.op (ok_assign rfl (fun _ => rfl)) rfl rfl ?_
  refine TrL.fin ?_
  refine End.nxt ?_
  refine Tr.for (σ := Nat × Nat) [] [] (fun (x, y) => [⟨0, true, [], kI (x : Int)⟩, ⟨1, true, [], kI (y : Int)⟩]) (fun (x, y) => []) (fun (x, y) => Nat.gcd x y = Int.gcd a b) (fun (x, y) => x = Int.gcd a b) (fun (x, y) => y) ((a.natAbs, b.natAbs)) rfl (Ent.mk (.i rfl (by split <;> omega) <| .i rfl (by split <;> omega) <| .nil) (.nil) rfl) ?_ ?_
  · rintro ⟨x, y⟩ hR0
    refine Tr.norm (S' := [⟨0, true, _, _⟩, ⟨1, true, _, _⟩]) (M' := []) rfl rfl ?_
    refine Tr.seq ?_
    refine Tr.seq ?_
    refine Tr.rg ?_
    refine TrL.op (ok_move rfl (fun _ => rfl)) rfl rfl ?_
    refine TrL.op (ok_gtr rfl (fun _ => rfl) rfl (fun _ => rfl)) rfl rfl ?_
    refine TrL.fin ?_
    refine End.nxt ?_
    refine Tr.cnd rfl ?_ ?_
    · intro h2
      replace h2 := of_decide_eq_true h2
      refine Tr.skip ?_
      refine End.nxt ?_
      refine Tr.blk ?_
      refine Tr.draw 5 mixed (by kernel_rfl) ?_
      refine RunD.op (ok_move rfl (fun _ => rfl)) rfl rfl ?_
      refine RunD.op (ok_move rfl (fun _ => rfl)) rfl rfl ?_
      refine RunD.op (ok_move rfl (fun _ => rfl)) rfl rfl ?_
      refine RunD.op (ok_remN x y rfl (fun _ => rfl) rfl (fun _ => rfl) (fun _ => by omega)) rfl rfl ?_
      refine RunD.op (ok_assign rfl (fun _ => rfl)) rfl rfl ?_
      refine RunD.z ?_
      refine TrL.op (ok_assign rfl (fun _ => rfl)) rfl rfl ?_
      refine TrL.fin ?_
      refine End.blk ?_
      exact End.lp ((y, x % y)) ((gcd_sw x y).trans hR0) (Nat.mod_lt _ (by omega)) (Ent.mk (.i rfl (by first | rfl | omega | (simp; done) | (simp; omega) | assumption) <| .i rfl (by first | rfl | omega | (simp; done) | (simp; omega) | assumption) <| .nil) (.nil) rfl)
    · intro h2
      replace h2 := Int.not_lt.1 (of_decide_eq_false h2)
      refine Tr.exit ?_
      refine Exs.thn ?_
      refine Exs.thn ?_
      refine Exs.here ?_
      exact End.cut ((x, y)) (by (obtain rfl : y = 0 := by omega); exact (Nat.gcd_zero_right x).symm.trans hR0) (Ent.mk (.i rfl (by first | rfl | omega | (simp; done) | (simp; omega) | assumption) <| .i rfl (by first | rfl | omega | (simp; done) | (simp; omega) | assumption) <| .nil) (.nil) rfl)
  · rintro ⟨x, y⟩ hE0
    refine Tr.norm (S' := [⟨0, true, _, _⟩, ⟨1, true, _, _⟩]) (M' := []) rfl rfl ?_
    refine Tr.seq ?_
    refine Tr.rg ?_
    refine TrL.op (ok_move rfl (fun _ => rfl)) rfl rfl ?_
    refine TrL.op (ok_assign rfl (fun _ => rfl)) rfl rfl ?_
    refine TrL.fin ?_
    refine End.nxt ?_
    refine Tr.ret ?_
    exact Rts.res1 (fn := Try.f25) rfl (.i rfl (by rw [hE0]) <| .nil)

set_option maxRecDepth 100000 in
theorem ct_rFloor (a b : Int) (hb : 0 < b) (h1 : b ≤ 1000000) (ha : -1000000 ≤ a ∧ a ≤ 1000000) : Ct Try.prog 79 [kI a, kI b] (kI (a / b)) := by
  have hm0 := Int.emod_nonneg a (show b ≠ 0 by omega)
  have hm1 := Int.emod_lt_of_pos a hb
  have hq := fl_exact a hb
  have hqb := fl_bd (a := a) hb
  refine Ct.mk Try.func79 rfl Try.ntmps79 rfl (fun w J => ?_)
  refine Tr.seq ?_
  refine Tr.rg ?_
  refine TrL.op (ok_assign rfl (fun _ => rfl)) rfl rfl ?_
  refine TrL.fin ?_
  refine End.nxt ?_
  refine Tr.seq ?_
  refine Tr.rg ?_
  refine TrL.op (ok_move rfl (fun _ => rfl)) rfl rfl ?_
  refine TrL.op (ok_move rfl (fun _ => rfl)) rfl rfl ?_
  refine TrL.op (ok_move rfl (fun _ => rfl)) rfl rfl ?_
  refine TrL.op (ok_call (fun hp => ct_Mod _ _ (by omega) (by omega)) (.a rfl (fun _ => rfl) <| .a rfl (fun _ => rfl) <| .nil)) rfl rfl ?_
  refine TrL.op (ok_sub rfl (fun _ => rfl) rfl (fun _ => rfl) (fun _ => by omega)) rfl rfl ?_
  refine TrL.op (ok_move rfl (fun _ => rfl)) rfl rfl ?_
  refine TrL.op (ok_quo rfl (fun _ => rfl) rfl (fun _ => rfl) (fun _ => by rw [hq]; omega)) rfl rfl ?_
  refine TrL.op (ok_assign rfl (fun _ => rfl)) rfl rfl ?_
  refine TrL.fin ?_
  refine End.nxt ?_
  refine Tr.ret ?_
  exact Rts.res1 (fn := Try.f79) rfl (.i rfl hq <| .nil)

end Go.Fl

/- The reference's orders. Plain Lean, no program in sight. -/
namespace Go.Fl
def dnT (L : List Int) : Nat → List Int
  | 0 => []
  | j + 1 => dnL L j
theorem dnT_succ {L : List Int} {j : Nat} : dnT L (j + 1) = L.filter (eqB j) ++ dnT L j := by
  cases j with
  | zero => show dnL L 0 = _; simp [dnL, dnT]
  | succ j => rfl
def filK (X L : List Int) (k i : Nat) : List Int := X ++ (L.take i).filter (eqB k)
theorem filK_zero {X L : List Int} {k : Nat} : filK X L k 0 = X := by unfold filK; simp
theorem filK_yes {X L : List Int} {k i : Nat} (hi : i < L.length) (h : nth L i = k) : filK X L k (i + 1) = filK X L k i ++ [(k : Int)] := by
  unfold filK
  rw [take_succ_nth hi, List.filter_append, List.append_assoc, h]
  simp [eqB]
theorem filK_no {X L : List Int} {k i : Nat} (hi : i < L.length) (h : nth L i ≠ k) : filK X L k (i + 1) = filK X L k i := by
  unfold filK
  rw [take_succ_nth hi, List.filter_append]
  simp [eqB, h]
theorem filK_len {X L : List Int} {k i : Nat} (hi : i ≤ L.length) : (filK X L k i).length ≤ X.length + L.length := by
  unfold filK
  rw [List.length_append]
  have := List.length_filter_le (eqB k) (L.take i)
  rw [List.length_take] at this
  omega
theorem filK_all {X L Z : List Int} {k : Nat} (h : X ++ dnT L (k + 1) = Z) : filK X L k L.length ++ dnT L k = Z := by
  unfold filK
  rw [List.take_length, List.append_assoc, ← dnT_succ]; exact h
theorem nth_ordOf {L : List (List Int)} {i : Nat} (h : i < L.length) : nth (ordOf L) i = ((nth L i).length : Int) - 1 := nth_map h
theorem ordsL_len {o : Ori} : (ordsL o).length = (vtx o).length := by unfold ordsL ordOf; simp
theorem pre_len {X Y Z : List Int} (h : X ++ Y = Z) : X.length ≤ Z.length := by rw [← h, List.length_append]; omega
theorem stratL_len {o : Ori} (v : Valid o) : (stratL o).length = (vtx o).length := by
  unfold stratL
  exact (dnL_all (L := ordsL o) (ordOf_rng v.pC)).length_eq.trans ordsL_len
end Go.Fl

/- Contracts: the reference: directions, strata; the law of directions. -/
namespace Go.Fl
open Go Go.Proofs


theorem dir_b {p q : Int} {c : Prop} [Decidable c] : (decide c && (!decide (-1000 ≤ p ∧ p ≤ 1000) || !decide (-1000 ≤ q ∧ q ≤ 1000) || decide ((Int.gcd p q : Int) ≠ 1))) = (decide c && decide (dirE p q = 2)) := by
  congr 1
  rw [Bool.eq_iff_iff, decide_eq_true_eq]
  simp only [Bool.or_eq_true, decide_eq_true_eq, Bool.not_eq_true', decide_eq_false_iff_not]
  unfold dirE
  by_cases h : p < -1000 ∨ 1000 < p ∨ q < -1000 ∨ 1000 < q ∨ Int.gcd p q ≠ 1
  · rw [if_pos h]; omega
  · rw [if_neg h]; omega
theorem dir_t {o : Ori} {p q : Int} (h : (decide (chkO o = 0) && decide (dirE p q = 2)) = true) : chkO o = 0 ∧ dirE p q = 2 := by
  simpa using h
theorem dir_f {o : Ori} {p q : Int} (h : (decide (chkO o = 0) && decide (dirE p q = 2)) = false) (h0 : chkO o = 0) : dirE p q = 0 := by
  simp only [h0, decide_true, Bool.true_and, decide_eq_false_iff_not] at h
  unfold dirE at *
  split at h
  · exact absurd rfl h
  · rename_i hh; rw [if_neg hh]
theorem abs_gcd {p q : Int} : Int.gcd (if p < 0 then -p else p) (if q < 0 then -q else q) = Int.gcd p q := by
  split <;> split <;> simp

set_option maxRecDepth 100000 in
theorem ct_rSame (a b : Ori) : Ct Try.prog 20 [kRd eO a, kRd eO b] (kB (decide (a = b))) := by
  refine Ct.mk Try.func20 rfl Try.ntmps20 rfl (fun w J => ?_)
  refine Tr.seq ?_
  refine Tr.rg ?_
  refine TrL.new (ok_box 2 rfl (fun _ => rfl) rfl) rfl rfl rfl rfl ?_
  refine TrL.new (ok_box 3 rfl (fun _ => rfl) rfl) rfl rfl rfl rfl ?_
  refine TrL.op (ok_assign rfl (fun _ => rfl)) rfl rfl ?_
  refine TrL.fin ?_
  refine End.nxt ?_
  refine Tr.seq ?_
  refine Tr.rg ?_
  refine TrL.op (ok_fldO rfl (fun _ => rfl)) rfl rfl ?_
  refine TrL.op (ok_ldB rfl (fun _ => rfl) rfl) rfl rfl ?_
  refine TrL.op (ok_fldO rfl (fun _ => rfl)) rfl rfl ?_
  refine TrL.op (ok_ldB rfl (fun _ => rfl) rfl) rfl rfl ?_
  refine TrL.op (ok_call (fun hp => ct_Ints _ _) (.a rfl (fun _ => rfl) <| .a rfl (fun _ => rfl) <| .nil)) rfl rfl ?_
  refine TrL.op (ok_move rfl (fun _ => rfl)) rfl rfl ?_
  refine TrL.gd rfl rfl rfl (ok_fldO rfl (fun _ => rfl)) rfl rfl ?_
  refine TrL.gd rfl rfl rfl (ok_ldB rfl id rfl) rfl rfl ?_
  refine TrL.gd rfl rfl rfl (ok_fldO rfl (fun _ => rfl)) rfl rfl ?_
  refine TrL.gd rfl rfl rfl (ok_ldB rfl id rfl) rfl rfl ?_
  refine TrL.gd rfl rfl rfl (ok_call (fun hp => ct_Ints _ _) (.a rfl id <| .a rfl id <| .nil)) rfl rfl ?_
  refine TrL.op (ok_and rfl (fun _ => rfl) rfl (fun hp h => gdT2 ((fun _ => rfl) hp) h)) rfl rfl ?_
  refine TrL.op (ok_assign rfl (fun _ => rfl)) rfl rfl ?_
  refine TrL.fin ?_
  refine End.nxt ?_
  refine Tr.ret ?_
  exact Rts.res1 (fn := Try.f20) rfl (.b rfl (by obtain ⟨a1, a2⟩ := a; obtain ⟨b1, b2⟩ := b; simp only [Prod.mk.injEq]; symm; exact Bool.decide_and _ _) <| .nil)

set_option maxRecDepth 100000 in
set_option maxHeartbeats 1000000 in
theorem ct_rToward (o : Ori) (p q : Int) (v : Valid o) (hd : dirE p q = 0) : Ct Try.prog 27 [kRd eO o, kI p, kI q] (kRd eO (tw o p q)) := by
  have hv0 := v.pos
  have hv1 := v.len
  have hv2 := v.le
  have hT0 := TwSt.start v hd
  refine Ct.mk Try.func27 rfl Try.ntmps27 rfl (fun w J => ?_)
  have hv2b : o.1.length ≤ 1000 := by omega
  refine Tr.seq ?_
  refine Tr.rg ?_
  refine TrL.new (ok_box 3 rfl (fun _ => rfl) rfl) rfl rfl rfl rfl ?_
  refine TrL.new (ok_alloc 6) rfl rfl rfl rfl ?_
  refine TrL.fin ?_
  refine End.nxt ?_
  refine Tr.for (σ := Ori × Int × Int) [⟨3, true, _, _⟩, ⟨6, true, _, _⟩] [⟨6, _, _⟩] (fun s => [⟨1, true, [], kI s.2.1⟩, ⟨2, true, [], kI s.2.2⟩]) (fun s => [⟨3, [], cBlk [kRd (eL eI) s.1.1, kRd (eL eI) s.1.2]⟩]) (fun s => TwSt o p q s.1 s.2.1 s.2.2) (fun s => s.2.2 = 0 ∧ TwSt o p q s.1 s.2.1 s.2.2) (fun s => s.2.2.natAbs) ((o, p, q)) hT0 (Ent.mk (.i rfl (by first | rfl | omega | (simp; done) | (simp; omega) | assumption) <| .i rfl (by first | rfl | omega | (simp; done) | (simp; omega) | assumption) <| .k rfl rfl <| .k rfl rfl <| .nil) (.k rfl <| .k rfl <| .nil) rfl) ?_ ?_
  · intro s hT
    refine Tr.norm (S' := [⟨1, true, _, _⟩, ⟨2, true, _, _⟩, ⟨3, true, _, _⟩, ⟨6, true, _, _⟩]) (M' := [⟨3, _, _⟩, ⟨6, _, _⟩]) rfl rfl ?_
    have hpR : Perm s.1.1 o.1.length := (by have := hT.v.pR; rwa [hT.len] at this)
    have hpU : Perm s.1.2 o.1.length := (by have := hT.v.pU; rwa [hT.len] at this)
    have hpb := hT.pb
    have hqb := hT.qb
    have hfl := fun h => flo_less s.2.1 (b := s.2.2) h
    have hfb := fun h => flo_bd (a := s.2.1) (b := s.2.2) h
    have hfr := fun h => flo_ref s.2.1 (b := s.2.2) h
    refine Tr.seq ?_
    refine Tr.seq ?_
    refine Tr.rg ?_
    refine TrL.op (ok_move rfl (fun _ => rfl)) rfl rfl ?_
    refine TrL.op (ok_neq rfl (fun _ => rfl) rfl (fun _ => rfl)) rfl rfl ?_
    refine TrL.fin ?_
    refine End.nxt ?_
    refine Tr.cnd rfl ?_ ?_
    · intro h1
      replace h1 := of_decide_eq_true h1
      have hfl1 := hfl h1
      have hfb1 := hfb h1
      refine Tr.skip ?_
      refine End.nxt ?_
      refine Tr.blk ?_
      refine Tr.seq ?_
      refine Tr.rg ?_
      refine TrL.op (ok_move rfl (fun _ => rfl)) rfl rfl ?_
      refine TrL.op (ok_move rfl (fun _ => rfl)) rfl rfl ?_
      refine TrL.op (ok_call (fun hp => ct_Abs _ (by omega)) (.a rfl (fun _ => rfl) <| .nil)) rfl rfl ?_
      refine TrL.op (ok_call (fun hp => ct_rFloor _ _ (by split <;> omega) (by split <;> omega) (by omega)) (.a rfl (fun _ => rfl) <| .a rfl (fun _ => rfl) <| .nil)) rfl rfl ?_
      refine TrL.op (ok_assign rfl (fun _ => rfl)) rfl rfl ?_
      refine TrL.fin ?_
      refine End.nxt ?_
      refine Tr.meet2 (σ := Unit) [⟨1, true, _, _⟩, ⟨2, true, _, _⟩, ⟨3, true, _, _⟩, ⟨6, true, _, _⟩] [⟨6, _, _⟩, ⟨3, _, _⟩] (.k rfl rfl <| .k rfl rfl <| .k rfl rfl <| .k rfl rfl <| .nil) (.k rfl <| .k rfl <| .nil) (fun _ => [⟨7, true, [], kI (flo s.2.1 s.2.2)⟩]) (fun _ => []) (fun _ => True) ?_ ?_
      · skip
        refine Tr.seq ?_
        refine Tr.rg ?_
        refine TrL.op (ok_move rfl (fun _ => rfl)) rfl rfl ?_
        refine TrL.op (ok_lss rfl (fun _ => rfl) rfl (fun _ => rfl)) rfl rfl ?_
        refine TrL.fin ?_
        refine End.nxt ?_
        refine Tr.cnd rfl ?_ ?_
        · intro h3
          replace h3 := of_decide_eq_true h3
          refine Tr.rg ?_
          refine TrL.op (ok_move rfl (fun _ => rfl)) rfl rfl ?_
          refine TrL.op (ok_neg rfl (fun _ => rfl) (fun _ => by omega)) rfl rfl ?_
          refine TrL.op (ok_move rfl (fun _ => rfl)) rfl rfl ?_
          refine TrL.op (ok_neg rfl (fun _ => rfl) (fun _ => by omega)) rfl rfl ?_
          refine TrL.op (ok_call (fun hp => ct_rFloor _ _ (by omega) (by omega) (by omega)) (.a rfl (fun _ => rfl) <| .a rfl (fun _ => rfl) <| .nil)) rfl rfl ?_
          refine TrL.op (ok_assign rfl (fun _ => rfl)) rfl rfl ?_
          refine TrL.fin ?_
          exact End.cut (()) (by first | rfl | omega | (simp; done) | (simp; omega) | assumption) (Ent.mk (.i rfl (by rw [hfr h1, if_pos h3]) <| .k rfl rfl <| .k rfl rfl <| .k rfl rfl <| .k rfl rfl <| .nil) (.k rfl <| .k rfl <| .nil) rfl)
        · intro h3
          replace h3 := Int.not_lt.1 (of_decide_eq_false h3)
          refine Tr.skip ?_
          exact End.cut (()) (by first | rfl | omega | (simp; done) | (simp; omega) | assumption) (Ent.mk (.i rfl (by rw [hfr h1, if_neg (by omega), if_neg (by omega), show ((s.2.2.natAbs : Nat) : Int) = s.2.2 by omega]) <| .k rfl rfl <| .k rfl rfl <| .k rfl rfl <| .k rfl rfl <| .nil) (.k rfl <| .k rfl <| .nil) rfl)
      · intro _ hM
        refine Tr.norm (S' := [⟨7, true, _, _⟩, ⟨1, true, _, _⟩, ⟨2, true, _, _⟩, ⟨3, true, _, _⟩, ⟨6, true, _, _⟩]) (M' := [⟨6, _, _⟩, ⟨3, _, _⟩]) rfl rfl ?_
        refine Tr.seq ?_
        refine Tr.rg ?_
        refine TrL.op (ok_fldO rfl (fun _ => rfl)) rfl rfl ?_
        refine TrL.op (ok_ldB rfl (fun _ => rfl) rfl) rfl rfl ?_
        refine TrL.op (ok_assign rfl (fun _ => rfl)) rfl rfl ?_
        refine TrL.fin ?_
        refine End.nxt ?_
        refine Tr.seq ?_
        refine Tr.seq ?_
        refine Tr.rg ?_
        refine TrL.op (ok_assign rfl (fun _ => rfl)) rfl rfl ?_
        refine TrL.fin ?_
        refine End.nxt ?_
        refine Tr.for1 (σ := Nat) [⟨1, true, _, _⟩, ⟨2, true, _, _⟩, ⟨3, true, _, _⟩, ⟨6, true, _, _⟩, ⟨7, true, _, _⟩] [⟨6, _, _⟩, ⟨3, _, _⟩] (fun m => [⟨8, true, [], kRd (eL eI) (thenN s.1.2 (dirL s.1.1 (flo s.2.1 s.2.2)) m)⟩, ⟨9, true, [], kI (m : Int)⟩]) (fun m => []) (fun m => m ≤ (flo s.2.1 s.2.2).natAbs) (fun m => m = (flo s.2.1 s.2.2).natAbs) (fun m => (flo s.2.1 s.2.2).natAbs - m) (0) (Nat.zero_le _) (Ent.mk (.r rfl (by rfl) <| .i rfl (by first | rfl | omega | (simp; done) | (simp; omega) | assumption) <| .k rfl rfl <| .k rfl rfl <| .k rfl rfl <| .k rfl rfl <| .k rfl rfl <| .nil) (.k rfl <| .k rfl <| .nil) rfl) ?_ ?_
        · intro m hR1
          refine Tr.norm (S' := [⟨8, true, _, _⟩, ⟨9, true, _, _⟩, ⟨1, true, _, _⟩, ⟨2, true, _, _⟩, ⟨3, true, _, _⟩, ⟨6, true, _, _⟩, ⟨7, true, _, _⟩]) (M' := [⟨6, _, _⟩, ⟨3, _, _⟩]) rfl rfl ?_
          have hD := dirL_perm hpR (flo s.2.1 s.2.2)
          have hTm := thenN_perm hpU hD m
          refine Tr.seq ?_
          refine Tr.seq ?_
          refine Tr.rg ?_
          refine TrL.op (ok_move rfl (fun _ => rfl)) rfl rfl ?_
          refine TrL.op (ok_move rfl (fun _ => rfl)) rfl rfl ?_
          refine TrL.op (ok_call (fun hp => ct_Abs _ (by omega)) (.a rfl (fun _ => rfl) <| .nil)) rfl rfl ?_
          refine TrL.op (ok_lss rfl (fun _ => rfl) rfl (fun _ => rfl)) rfl rfl ?_
          refine TrL.fin ?_
          refine End.nxt ?_
          refine Tr.cnd rfl ?_ ?_
          · intro h7
            replace h7 := of_decide_eq_true h7
            refine Tr.skip ?_
            refine End.nxt ?_
            refine Tr.seq ?_
            refine Tr.blk ?_
            refine Tr.seq ?_
            refine Tr.rg ?_
            refine TrL.op (ok_move rfl (fun _ => rfl)) rfl rfl ?_
            refine TrL.op (ok_gtr rfl (fun _ => rfl) rfl (fun _ => rfl)) rfl rfl ?_
            refine TrL.fin ?_
            refine End.nxt ?_
            refine Tr.cnd rfl ?_ ?_
            · intro h9
              replace h9 := of_decide_eq_true h9
              refine Tr.rg ?_
              refine TrL.op (ok_move rfl (fun _ => rfl)) rfl rfl ?_
              refine TrL.op (ok_fldO rfl (fun _ => rfl)) rfl rfl ?_
              refine TrL.op (ok_ldB rfl (fun _ => rfl) rfl) rfl rfl ?_
              refine TrL.op (ok_call (fun hp => ct_rAft2 _ _ hTm hpR hv2b) (.a rfl (fun _ => rfl) <| .a rfl (fun _ => rfl) <| .nil)) rfl rfl ?_
              refine TrL.op (ok_assign rfl (fun _ => rfl)) rfl rfl ?_
              refine TrL.fin ?_
              refine End.blk ?_
              refine End.nxt ?_
              refine Tr.rg ?_
              refine TrL.op (ok_move rfl (fun _ => rfl)) rfl rfl ?_
              refine TrL.op (ok_add rfl (fun _ => rfl) rfl (fun _ => rfl) (fun _ => by omega)) rfl rfl ?_
              refine TrL.op (ok_assign rfl (fun _ => rfl)) rfl rfl ?_
              refine TrL.fin ?_
              exact End.lp (m + 1) (by split at h7 <;> omega) (by split at h7 <;> omega) (Ent.mk (.r rfl (by rw [thenN]; unfold dirL; rw [if_neg (by omega)]) <| .i rfl (by first | rfl | omega | (simp; done) | (simp; omega) | assumption) <| .k rfl rfl <| .k rfl rfl <| .k rfl rfl <| .k rfl rfl <| .k rfl rfl <| .nil) (.k rfl <| .k rfl <| .nil) rfl)
            · intro h9
              replace h9 := Int.not_lt.1 (of_decide_eq_false h9)
              refine Tr.rg ?_
              refine TrL.op (ok_move rfl (fun _ => rfl)) rfl rfl ?_
              refine TrL.op (ok_fldO rfl (fun _ => rfl)) rfl rfl ?_
              refine TrL.op (ok_ldB rfl (fun _ => rfl) rfl) rfl rfl ?_
              refine TrL.op (ok_call (fun hp => ct_rInv2 _ hpR hv2b) (.a rfl (fun _ => rfl) <| .nil)) rfl rfl ?_
              refine TrL.op (ok_call (fun hp => ct_rAft2 _ _ hTm hpR.inv hv2b) (.a rfl (fun _ => rfl) <| .a rfl (fun _ => rfl) <| .nil)) rfl rfl ?_
              refine TrL.op (ok_assign rfl (fun _ => rfl)) rfl rfl ?_
              refine TrL.fin ?_
              refine End.blk ?_
              refine End.nxt ?_
              refine Tr.rg ?_
              refine TrL.op (ok_move rfl (fun _ => rfl)) rfl rfl ?_
              refine TrL.op (ok_add rfl (fun _ => rfl) rfl (fun _ => rfl) (fun _ => by omega)) rfl rfl ?_
              refine TrL.op (ok_assign rfl (fun _ => rfl)) rfl rfl ?_
              refine TrL.fin ?_
              exact End.lp (m + 1) (by split at h7 <;> omega) (by split at h7 <;> omega) (Ent.mk (.r rfl (by rw [thenN]; unfold dirL; rw [if_pos (by split at h7 <;> omega)]) <| .i rfl (by first | rfl | omega | (simp; done) | (simp; omega) | assumption) <| .k rfl rfl <| .k rfl rfl <| .k rfl rfl <| .k rfl rfl <| .k rfl rfl <| .nil) (.k rfl <| .k rfl <| .nil) rfl)
          · intro h7
            replace h7 := Int.not_lt.1 (of_decide_eq_false h7)
            refine Tr.exit ?_
            refine Exs.thn ?_
            refine Exs.thn ?_
            refine Exs.here ?_
            exact End.cut (m) (by split at h7 <;> omega) (Ent.mk (.r rfl (by first | rfl | omega | (simp; done) | (simp; omega) | assumption) <| .i rfl (by first | rfl | omega | (simp; done) | (simp; omega) | assumption) <| .k rfl rfl <| .k rfl rfl <| .k rfl rfl <| .k rfl rfl <| .k rfl rfl <| .nil) (.k rfl <| .k rfl <| .nil) rfl)
        · rintro _ rfl
          refine End.norm (S' := [⟨8, true, _, _⟩, ⟨9, true, _, _⟩, ⟨1, true, _, _⟩, ⟨2, true, _, _⟩, ⟨3, true, _, _⟩, ⟨6, true, _, _⟩, ⟨7, true, _, _⟩]) (M' := [⟨6, _, _⟩, ⟨3, _, _⟩]) rfl rfl ?_
          refine End.nxt ?_
          refine Tr.seq ?_
          refine Tr.rg ?_
          refine TrL.op (ok_move rfl (fun _ => rfl)) rfl rfl ?_
          refine TrL.op (ok_move rfl (fun _ => rfl)) rfl rfl ?_
          refine TrL.op (ok_move rfl (fun _ => rfl)) rfl rfl ?_
          refine TrL.op (ok_mul rfl (fun _ => rfl) rfl (fun _ => rfl) (fun _ => by omega)) rfl rfl ?_
          refine TrL.op (ok_sub rfl (fun _ => rfl) rfl (fun _ => rfl) (fun _ => by omega)) rfl rfl ?_
          refine TrL.op (ok_assign rfl (fun _ => rfl)) rfl rfl ?_
          refine TrL.fin ?_
          refine End.nxt ?_
          refine Tr.seq ?_
          refine Tr.rg ?_
          refine TrL.op (ok_move rfl (fun _ => rfl)) rfl rfl ?_
          refine TrL.op (ok_fldO rfl (fun _ => rfl)) rfl rfl ?_
          refine TrL.op (ok_ldB rfl (fun _ => rfl) rfl) rfl rfl ?_
          refine TrL.op (ok_call (fun hp => ct_rInv2 _ hpR hv2b) (.a rfl (fun _ => rfl) <| .nil)) rfl rfl ?_
          refine TrL.op (ok_build (fun hp => .cons rfl rfl rfl <| .cons rfl rfl rfl <| .nil)) rfl rfl ?_
          refine TrL.stB rfl rfl rfl rfl ?_
          refine TrL.fin ?_
          refine End.nxt ?_
          refine Tr.rg ?_
          refine TrL.op (ok_move rfl (fun _ => rfl)) rfl rfl ?_
          refine TrL.op (ok_move rfl (fun _ => rfl)) rfl rfl ?_
          refine TrL.op (ok_neg rfl (fun _ => rfl) (fun _ => by omega)) rfl rfl ?_
          refine TrL.op (ok_assign rfl (fun _ => rfl)) rfl rfl ?_
          refine TrL.op (ok_assign rfl (fun _ => rfl)) rfl rfl ?_
          refine TrL.fin ?_
          refine End.blk ?_
          exact End.lp ((twO s.1 (flo s.2.1 s.2.2), s.2.2, flo s.2.1 s.2.2 * s.2.2 - s.2.1)) (hT.next h1) (hfl h1) (Ent.mk (.i rfl (by first | rfl | omega | (simp; done) | (simp; omega) | assumption) <| .i rfl (by first | rfl | omega | (simp; done) | (simp; omega) | assumption) <| .k rfl rfl <| .k rfl rfl <| .nil) (.e (by rfl) rfl <| .k rfl <| .nil) rfl)
    · intro h1
      replace h1 := Classical.not_not.1 (of_decide_eq_false h1)
      refine Tr.exit ?_
      refine Exs.thn ?_
      refine Exs.thn ?_
      refine Exs.here ?_
      exact End.cut (s) ⟨h1, hT⟩ (Ent.mk (.i rfl (by first | rfl | omega | (simp; done) | (simp; omega) | assumption) <| .i rfl (by first | rfl | omega | (simp; done) | (simp; omega) | assumption) <| .k rfl rfl <| .k rfl rfl <| .nil) (.k rfl <| .k rfl <| .nil) rfl)
  · rintro s ⟨hz, hT⟩
    refine Tr.norm (S' := [⟨1, true, _, _⟩, ⟨2, true, _, _⟩, ⟨3, true, _, _⟩, ⟨6, true, _, _⟩]) (M' := [⟨3, _, _⟩, ⟨6, _, _⟩]) rfl rfl ?_
    have hpR : Perm s.1.1 o.1.length := (by have := hT.v.pR; rwa [hT.len] at this)
    have hpU : Perm s.1.2 o.1.length := (by have := hT.v.pU; rwa [hT.len] at this)
    rw [hz] at hT
    obtain ⟨hp1, htw⟩ := hT.fin
    refine Tr.seq ?_
    refine Tr.seq ?_
    refine Tr.rg ?_
    refine TrL.op (ok_move rfl (fun _ => rfl)) rfl rfl ?_
    refine TrL.op (ok_lss rfl (fun _ => rfl) rfl (fun _ => rfl)) rfl rfl ?_
    refine TrL.fin ?_
    refine End.nxt ?_
    refine Tr.cnd rfl ?_ ?_
    · intro h15
      replace h15 := of_decide_eq_true h15
      refine Tr.draw 5 mixed (by kernel_rfl) ?_
      refine RunD.op (ok_fldO rfl (fun _ => rfl)) rfl rfl ?_
      refine RunD.op (ok_ldB rfl (fun _ => rfl) rfl) rfl rfl ?_
      refine RunD.op (ok_call (fun hp => ct_rInv2 _ hpR hv2b) (.a rfl (fun _ => rfl) <| .nil)) rfl rfl ?_
      refine RunD.op (ok_fldO rfl (fun _ => rfl)) rfl rfl ?_
      refine RunD.op (ok_ldB rfl (fun _ => rfl) rfl) rfl rfl ?_
      refine RunD.z ?_
      refine TrL.op (ok_call (fun hp => ct_rInv2 _ hpU hv2b) (.a rfl (fun _ => rfl) <| .nil)) rfl rfl ?_
      refine TrL.op (ok_build (fun hp => .cons rfl rfl rfl <| .cons rfl rfl rfl <| .nil)) rfl rfl ?_
      refine TrL.stB rfl rfl rfl rfl ?_
      refine TrL.fin ?_
      refine End.nxt ?_
      refine Tr.seq ?_
      refine Tr.rg ?_
      refine TrL.op (ok_ldBS rfl (fun _ => rfl)) rfl rfl ?_
      refine TrL.stB rfl rfl rfl rfl ?_
      refine TrL.fin ?_
      refine End.nxt ?_
      refine Tr.ret ?_
      exact Rts.resC1 (fn := Try.f27) rfl rfl (aggRd rfl (by rw [htw, if_pos h15]; rfl))
    · intro h15
      replace h15 := Int.not_lt.1 (of_decide_eq_false h15)
      refine Tr.skip ?_
      refine End.nxt ?_
      refine Tr.seq ?_
      refine Tr.rg ?_
      refine TrL.op (ok_ldBS rfl (fun _ => rfl)) rfl rfl ?_
      refine TrL.stB rfl rfl rfl rfl ?_
      refine TrL.fin ?_
      refine End.nxt ?_
      refine Tr.ret ?_
      exact Rts.resC1 (fn := Try.f27) rfl rfl (aggRd rfl (by rw [htw, if_neg (by omega)]))

set_option maxRecDepth 100000 in
theorem ct_rStratum (o : Ori) (v : Valid o) : Ct Try.prog 28 [kRd eO o] (kRd (eL eI) (stratL o)) := by
  have hv0 := v.pos
  have hv1 := v.len
  have hv2 := v.le
  have hvl := vtx_le (o := o)
  have hol := ordsL_len (o := o)
  have hsl := stratL_len v
  refine Ct.mk Try.func28 rfl Try.ntmps28 rfl (fun w J => ?_)
  refine Tr.seq ?_
  refine Tr.rg ?_
  refine TrL.new (ok_box 1 rfl (fun _ => rfl) rfl) rfl rfl rfl rfl ?_
  refine TrL.op (ok_assign rfl (fun _ => rfl)) rfl rfl ?_
  refine TrL.fin ?_
  refine End.nxt ?_
  refine Tr.seq ?_
  refine Tr.rg ?_
  refine TrL.op (ok_ldBS rfl (fun _ => rfl)) rfl rfl ?_
  refine TrL.op (ok_call (fun hp => ct_rVertices _ v) (.s rfl (fun _ => rfl) rfl <| .nil)) rfl rfl ?_
  refine TrL.op (ok_assign rfl (fun _ => rfl)) rfl rfl ?_
  refine TrL.fin ?_
  refine End.nxt ?_
  refine Tr.seq ?_
  refine Tr.rg ?_
  refine TrL.op (ok_assign rfl (fun _ => rfl)) rfl rfl ?_
  refine TrL.fin ?_
  refine End.nxt ?_
  refine Tr.seq ?_
  refine Tr.seq ?_
  refine Tr.rg ?_
  refine TrL.op (ok_ldBS rfl (fun _ => rfl)) rfl rfl ?_
  refine TrL.op (ok_call (fun hp => ct_rSize _) (.s rfl (fun _ => rfl) rfl <| .nil)) rfl rfl ?_
  refine TrL.op (ok_assign rfl (fun _ => rfl)) rfl rfl ?_
  refine TrL.fin ?_
  refine End.nxt ?_
  refine Tr.grow (s := 4) rfl rfl 4 rfl 3 eI rfl ?_
  refine Tr.for1 (σ := Nat × List Int) [⟨3, true, _, _⟩] [] (fun (j, X) => [⟨4, true, [4], kOsl 4 X.length⟩, ⟨5, true, [], kI ((j : Int) - 1)⟩]) (fun (j, X) => [⟨4, [], cArr true 3 eI X X.length⟩]) (fun (j, X) => X ++ dnT (ordsL o) j = stratL o ∧ j ≤ o.1.length + 1) (fun (j, X) => X = stratL o) (fun (j, X) => j) ((o.1.length + 1, [])) ⟨rfl, Nat.le_refl _⟩ (Ent.mk (.o rfl (by first | rfl | omega | (simp; done) | (simp; omega) | assumption) rfl <| .i rfl (by first | rfl | omega | (simp; done) | (simp; omega) | assumption) <| .k rfl rfl <| .nil) (.a (by rfl) (by first | rfl | omega | (simp; done) | (simp; omega) | assumption) <| .nil) rfl) ?_ ?_
  · rintro ⟨j, X⟩ ⟨hX, hj⟩
    refine Tr.norm (S' := [⟨4, true, _, _⟩, ⟨5, true, _, _⟩, ⟨3, true, _, _⟩]) (M' := [⟨4, _, _⟩]) rfl rfl ?_
    have hXl := pre_len hX
    refine Tr.seq ?_
    refine Tr.seq ?_
    refine Tr.rg ?_
    refine TrL.op (ok_move rfl (fun _ => rfl)) rfl rfl ?_
    refine TrL.op (ok_geq rfl (fun _ => rfl) rfl (fun _ => rfl)) rfl rfl ?_
    refine TrL.fin ?_
    refine End.nxt ?_
    refine Tr.cnd rfl ?_ ?_
    · intro h4
      replace h4 := of_decide_eq_true h4
      have hj1 : 0 < j := by omega
      refine Tr.skip ?_
      refine End.nxt ?_
      refine Tr.seq ?_
      refine Tr.blk ?_
      refine Tr.seq ?_
      refine Tr.rg ?_
      refine TrL.op (ok_assign rfl (fun _ => rfl)) rfl rfl ?_
      refine TrL.fin ?_
      refine End.nxt ?_
      refine Tr.for1 (σ := Nat) [⟨3, true, _, _⟩, ⟨5, true, _, _⟩] [] (fun i => [⟨4, true, [4], kOsl 4 (filK X (ordsL o) (j - 1) i).length⟩, ⟨6, true, [], kI (i : Int)⟩]) (fun i => [⟨4, [], cArr true 3 eI (filK X (ordsL o) (j - 1) i) (filK X (ordsL o) (j - 1) i).length⟩]) (fun i => i ≤ (vtx o).length) (fun i => i = (vtx o).length) (fun i => (vtx o).length - i) (0) (Nat.zero_le _) (Ent.mk (.o rfl (by rw [filK_zero]) rfl <| .i rfl (by first | rfl | omega | (simp; done) | (simp; omega) | assumption) <| .k rfl rfl <| .k rfl rfl <| .nil) (.a (by rw [filK_zero]) (by rw [filK_zero]) <| .nil) rfl) ?_ ?_
      · intro i hR1
        refine Tr.norm (S' := [⟨4, true, _, _⟩, ⟨6, true, _, _⟩, ⟨3, true, _, _⟩, ⟨5, true, _, _⟩]) (M' := [⟨4, _, _⟩]) rfl rfl ?_
        have hfl := fun h => filK_len (X := X) (L := ordsL o) (k := j - 1) (i := i) h
        have hfl2 := hfl (by omega)
        have hrl := fun h => vtx_row_len v (k := i) h
        refine Tr.seq ?_
        refine Tr.seq ?_
        refine Tr.rg ?_
        refine TrL.op (ok_move rfl (fun _ => rfl)) rfl rfl ?_
        refine TrL.op (ok_move rfl (fun _ => rfl)) rfl rfl ?_
        refine TrL.op (ok_lenJ rfl (fun _ => rfl)) rfl rfl ?_
        refine TrL.op (ok_lss rfl (fun _ => rfl) rfl (fun _ => rfl)) rfl rfl ?_
        refine TrL.fin ?_
        refine End.nxt ?_
        refine Tr.cnd rfl ?_ ?_
        · intro h7
          replace h7 := of_decide_eq_true h7
          have hrl2 := hrl (by omega)
          have hno : nth (ordsL o) i = ((nth (vtx o) i).length : Int) - 1 := nth_ordOf (by omega)
          refine Tr.skip ?_
          refine End.nxt ?_
          refine Tr.seq ?_
          refine Tr.blk ?_
          refine Tr.seq ?_
          refine Tr.rg ?_
          refine TrL.op (ok_move rfl (fun _ => rfl)) rfl rfl ?_
          refine TrL.op (ok_move rfl (fun _ => rfl)) rfl rfl ?_
          first | refine TrL.op (ok_idxN rfl (fun _ => rfl) rfl (fun _ => rfl) rfl (fun _ => by omega)) rfl rfl ?_ | refine TrL.op (ok_idxP rfl (fun _ => rfl) rfl (fun _ => rfl) rfl (fun _ => by omega)) rfl rfl ?_
          refine TrL.op (ok_ldP rfl (fun _ => rfl) rfl) rfl rfl ?_
          refine TrL.op (ok_lenJ rfl (fun _ => rfl)) rfl rfl ?_
          refine TrL.op (ok_sub rfl (fun _ => rfl) rfl (fun _ => rfl) (fun _ => by omega)) rfl rfl ?_
          refine TrL.op (ok_move rfl (fun _ => rfl)) rfl rfl ?_
          refine TrL.op (ok_eql rfl (fun _ => rfl) rfl (fun _ => rfl)) rfl rfl ?_
          refine TrL.fin ?_
          refine End.nxt ?_
          refine Tr.cnd rfl ?_ ?_
          · intro h9
            replace h9 := of_decide_eq_true h9
            have hoi : nth (ordsL o) i = ((j - 1 : Nat) : Int) := by omega
            refine Tr.rg ?_
            refine TrL.op (ok_move rfl (fun _ => rfl)) rfl rfl ?_
            refine TrL.op (ok_move rfl (fun _ => rfl)) rfl rfl ?_
            refine TrL.new (ok_bsl eI 31 (fun hp => .cons rfl <| .nil) rfl rfl rfl rfl) rfl rfl rfl rfl ?_
            refine TrL.app rfl rfl rfl rfl rfl rfl rfl rfl (by first | omega | (simp only [List.length_cons, List.length_nil]; omega)) (by first | omega | (simp only [List.length_cons, List.length_nil]; omega)) ?_
            refine TrL.norm (S' := [⟨_, _, _, _⟩, ⟨_, _, _, _⟩, ⟨_, _, _, _⟩, ⟨_, _, _, _⟩, ⟨_, _, _, _⟩, ⟨_, _, _, _⟩, ⟨_, _, _, _⟩, ⟨_, _, _, _⟩, ⟨_, _, _, _⟩, ⟨_, _, _, _⟩, ⟨_, _, _, _⟩, ⟨_, _, _, _⟩, ⟨_, _, _, _⟩, ⟨_, _, _, _⟩, ⟨_, _, _, _⟩, ⟨_, _, _, _⟩, ⟨_, _, _, _⟩, ⟨_, _, _, _⟩, ⟨_, _, _, _⟩, ⟨_, _, _, _⟩]) rfl rfl ?_
            refine TrL.op (ok_assign rfl (fun _ => rfl)) rfl rfl ?_
            refine TrL.fin ?_
            refine End.blk ?_
            refine End.nxt ?_
            refine Tr.rg ?_
            refine TrL.op (ok_move rfl (fun _ => rfl)) rfl rfl ?_
            refine TrL.op (ok_add rfl (fun _ => rfl) rfl (fun _ => rfl) (fun _ => by omega)) rfl rfl ?_
            refine TrL.op (ok_assign rfl (fun _ => rfl)) rfl rfl ?_
            refine TrL.fin ?_
            exact End.lp (i + 1) (by first | rfl | omega | (simp; done) | (simp; omega) | assumption) (by omega) (Ent.mk (.o rfl (by rw [filK_yes (by omega) hoi, List.length_append]; rfl) rfl <| .i rfl (by first | rfl | omega | (simp; done) | (simp; omega) | assumption) <| .k rfl rfl <| .k rfl rfl <| .nil) (.a (by rw [filK_yes (by omega) hoi, show ((j - 1 : Nat) : Int) = (j : Int) - 1 by omega]) (by rw [filK_yes (by omega) hoi, List.length_append]; rfl) <| .nil) rfl)
          · intro h9
            replace h9 := of_decide_eq_false h9
            have hoi : nth (ordsL o) i ≠ ((j - 1 : Nat) : Int) := by omega
            refine Tr.skip ?_
            refine End.blk ?_
            refine End.nxt ?_
            refine Tr.rg ?_
            refine TrL.op (ok_move rfl (fun _ => rfl)) rfl rfl ?_
            refine TrL.op (ok_add rfl (fun _ => rfl) rfl (fun _ => rfl) (fun _ => by omega)) rfl rfl ?_
            refine TrL.op (ok_assign rfl (fun _ => rfl)) rfl rfl ?_
            refine TrL.fin ?_
            exact End.lp (i + 1) (by first | rfl | omega | (simp; done) | (simp; omega) | assumption) (by omega) (Ent.mk (.o rfl (by rw [filK_no (by omega) hoi]) rfl <| .i rfl (by first | rfl | omega | (simp; done) | (simp; omega) | assumption) <| .k rfl rfl <| .k rfl rfl <| .nil) (.a (by rw [filK_no (by omega) hoi]) (by rw [filK_no (by omega) hoi]) <| .nil) rfl)
        · intro h7
          replace h7 := Int.not_lt.1 (of_decide_eq_false h7)
          refine Tr.exit ?_
          refine Exs.thn ?_
          refine Exs.thn ?_
          refine Exs.here ?_
          exact End.cut (i) (by omega) (Ent.mk (.o rfl (by first | rfl | omega | (simp; done) | (simp; omega) | assumption) rfl <| .i rfl (by first | rfl | omega | (simp; done) | (simp; omega) | assumption) <| .k rfl rfl <| .k rfl rfl <| .nil) (.a (by first | rfl | omega | (simp; done) | (simp; omega) | assumption) (by first | rfl | omega | (simp; done) | (simp; omega) | assumption) <| .nil) rfl)
      · rintro _ rfl
        refine End.norm (S' := [⟨4, true, _, _⟩, ⟨6, true, _, _⟩, ⟨3, true, _, _⟩, ⟨5, true, _, _⟩]) (M' := [⟨4, _, _⟩]) rfl rfl ?_
        refine End.blk ?_
        refine End.nxt ?_
        refine Tr.rg ?_
        refine TrL.op (ok_move rfl (fun _ => rfl)) rfl rfl ?_
        refine TrL.op (ok_sub rfl (fun _ => rfl) rfl (fun _ => rfl) (fun _ => by omega)) rfl rfl ?_
        refine TrL.op (ok_assign rfl (fun _ => rfl)) rfl rfl ?_
        refine TrL.fin ?_
        exact End.lp ((j - 1, filK X (ordsL o) (j - 1) (ordsL o).length)) ⟨filK_all (by rw [show j - 1 + 1 = j by omega]; exact hX), by omega⟩ (show j - 1 < j by omega) (Ent.mk (.o rfl (by rw [hol]) rfl <| .i rfl (by first | rfl | omega | (simp; done) | (simp; omega) | assumption) <| .k rfl rfl <| .nil) (.a (by rw [hol]) (by rw [hol]) <| .nil) rfl)
    · intro h4
      replace h4 := Int.not_le.1 (of_decide_eq_false h4)
      refine Tr.exit ?_
      refine Exs.thn ?_
      refine Exs.thn ?_
      refine Exs.here ?_
      exact End.cut ((j, X)) (by (obtain rfl : j = 0 := by omega); simpa [dnT] using hX) (Ent.mk (.o rfl (by first | rfl | omega | (simp; done) | (simp; omega) | assumption) rfl <| .i rfl (by first | rfl | omega | (simp; done) | (simp; omega) | assumption) <| .k rfl rfl <| .nil) (.a (by first | rfl | omega | (simp; done) | (simp; omega) | assumption) (by first | rfl | omega | (simp; done) | (simp; omega) | assumption) <| .nil) rfl)
  · rintro ⟨j, X⟩ rfl
    refine End.norm (S' := [⟨4, true, _, _⟩, ⟨5, true, _, _⟩, ⟨3, true, _, _⟩]) (M' := [⟨4, _, _⟩]) rfl rfl ?_
    refine End.nxt ?_
    refine Tr.seq ?_
    refine Tr.rg ?_
    refine TrL.op (ok_move rfl (fun _ => rfl)) rfl rfl ?_
    refine TrL.op (ok_assign rfl (fun _ => rfl)) rfl rfl ?_
    refine TrL.fin ?_
    refine End.nxt ?_
    refine Tr.frz 4 [2] ⟨rfl, trivial⟩ (by simp only [lenMax]; omega) rfl ?_
    refine Tr.ret ?_
    exact Rts.res1 (fn := Try.f28) rfl (.r rfl (by first | rfl | omega | (simp; done) | (simp; omega) | assumption) <| .nil)

set_option maxRecDepth 100000 in
theorem ct_OrigamiDirections (o : Ori) (p q : Int) : Ct Try.prog 4 [kRd eO o, kI p, kI q] (kB true) := by
  refine Ct.mk Try.func4 rfl Try.ntmps4 rfl (fun w J => ?_)
  refine Tr.seq ?_
  refine Tr.rg ?_
  refine TrL.new (ok_box 3 rfl (fun _ => rfl) rfl) rfl rfl rfl rfl ?_
  refine TrL.op (ok_assign rfl (fun _ => rfl)) rfl rfl ?_
  refine TrL.fin ?_
  refine End.nxt ?_
  refine Tr.seq ?_
  refine Tr.seq ?_
  refine Tr.rg ?_
  refine TrL.op (ok_call (fun hp => ct_awake) (.nil)) rfl rfl ?_
  refine TrL.op (ok_not rfl (fun _ => rfl)) rfl rfl ?_
  refine TrL.fin ?_
  refine End.nxt ?_
  refine Tr.cnd rfl ?_ ?_
  · intro h1
    simp at h1
  · intro h1
    refine Tr.skip ?_
    refine End.nxt ?_
    refine Tr.seq ?_
    refine Tr.seq ?_
    refine Tr.rg ?_
    refine TrL.op (ok_ldBS rfl (fun _ => rfl)) rfl rfl ?_
    refine TrL.op (ok_call (fun hp => ct_Few _) (.s rfl (fun _ => rfl) rfl <| .nil)) rfl rfl ?_
    refine TrL.op (ok_not rfl (fun _ => rfl)) rfl rfl ?_
    refine TrL.fin ?_
    refine End.nxt ?_
    refine Tr.cnd rfl ?_ ?_
    · intro h3
      try simp only [decide_eq_false_iff_not, Bool.not_eq_true'] at h3
      refine Tr.seq ?_
      refine Tr.rg ?_
      refine TrL.op (ok_assign rfl (fun _ => rfl)) rfl rfl ?_
      refine TrL.fin ?_
      refine End.nxt ?_
      refine Tr.ret ?_
      refine Rts.thn ?_
      exact Rts.res1 (fn := Try.f4) rfl (.b rfl (by rfl) <| .nil)
    · intro h3
      try simp only [decide_eq_true_eq, Bool.not_eq_false'] at h3
      refine Tr.skip ?_
      refine End.nxt ?_
      refine Tr.seq ?_
      refine Tr.rg ?_
      refine TrL.op (ok_ldBS rfl (fun _ => rfl)) rfl rfl ?_
      refine TrL.op (ok_move rfl (fun _ => rfl)) rfl rfl ?_
      refine TrL.op (ok_move rfl (fun _ => rfl)) rfl rfl ?_
      refine TrL.op (ok_call (fun hp => ct_oToward _ _ _) (.s rfl (fun _ => rfl) rfl <| .a rfl (fun _ => rfl) <| .a rfl (fun _ => rfl) <| .nil)) rfl rfl ?_
      refine TrL.op (ok_move rfl (fun _ => rfl)) rfl rfl ?_
      refine TrL.op (ok_ext rfl (fun _ => rfl) rfl) rfl rfl ?_
      refine TrL.op (ok_ext rfl (fun _ => rfl) rfl) rfl rfl ?_
      refine TrL.new (ok_alloc 7) rfl rfl rfl rfl ?_
      refine TrL.stB rfl rfl rfl rfl ?_
      refine TrL.op (ok_assign rfl (fun _ => rfl)) rfl rfl ?_
      refine TrL.fin ?_
      refine End.nxt ?_
      refine Tr.seq ?_
      refine Tr.rg ?_
      refine TrL.op (ok_ldBS rfl (fun _ => rfl)) rfl rfl ?_
      refine TrL.op (ok_call (fun hp => ct_rCheck _) (.s rfl (fun _ => rfl) rfl <| .nil)) rfl rfl ?_
      refine TrL.op (ok_assign rfl (fun _ => rfl)) rfl rfl ?_
      refine TrL.fin ?_
      refine End.nxt ?_
      refine Tr.seq ?_
      refine Tr.seq ?_
      refine Tr.rg ?_
      refine TrL.op (ok_move rfl (fun _ => rfl)) rfl rfl ?_
      refine TrL.op (ok_eql rfl (fun _ => rfl) rfl (fun _ => rfl)) rfl rfl ?_
      refine TrL.op (ok_move rfl (fun _ => rfl)) rfl rfl ?_
      refine TrL.gd rfl rfl rfl (ok_move rfl (fun _ => rfl)) rfl rfl ?_
      refine TrL.gd rfl rfl rfl (ok_call (fun hp => ct_Within _ _ _) (.a rfl id <| .a rfl (fun _ => rfl) <| .a rfl (fun _ => rfl) <| .nil)) rfl rfl ?_
      refine TrL.gd rfl rfl rfl (ok_not rfl id) rfl rfl ?_
      refine TrL.gd rfl rfl rfl (ok_move rfl id) rfl rfl ?_
      refine TrL.gd rfl rfl rfl (ok_move rfl (fun _ => rfl)) rfl rfl ?_
      refine TrL.gd rfl rfl rfl (ok_call (fun hp => ct_Within _ _ _) (.a rfl id <| .a rfl (fun _ => rfl) <| .a rfl (fun _ => rfl) <| .nil)) rfl rfl ?_
      refine TrL.gd rfl rfl rfl (ok_not rfl id) rfl rfl ?_
      refine TrL.gd rfl rfl rfl (ok_or rfl id rfl (fun hp h => gdF2 (id hp) h)) rfl rfl ?_
      refine TrL.gd rfl rfl rfl (ok_move rfl id) rfl rfl ?_
      refine TrL.gd rfl rfl rfl (ok_move rfl (fun _ => rfl)) rfl rfl ?_
      refine TrL.gd rfl rfl rfl (ok_call (fun hp => ct_Abs _ (by simp at hp; omega)) (.a rfl id <| .nil)) rfl rfl ?_
      refine TrL.gd rfl rfl rfl (ok_move rfl (fun _ => rfl)) rfl rfl ?_
      refine TrL.gd rfl rfl rfl (ok_call (fun hp => ct_Abs _ (by simp at hp; omega)) (.a rfl id <| .nil)) rfl rfl ?_
      refine TrL.gd rfl rfl rfl (ok_call (fun hp => ct_bGcd _ _ (by simp at hp; split <;> omega) (by simp at hp; split <;> omega)) (.a rfl id <| .a rfl id <| .nil)) rfl rfl ?_
      refine TrL.gd rfl rfl rfl (ok_neq rfl id rfl (fun _ => rfl)) rfl rfl ?_
      refine TrL.gd rfl rfl rfl (ok_or rfl id rfl (fun hp h => gdF2 (id hp) h)) rfl rfl ?_
      refine TrL.op (ok_and rfl (fun _ => rfl) rfl (fun hp h => gdT2 ((fun _ => rfl) hp) h)) rfl rfl ?_
      refine TrL.fin ?_
      refine End.nxt ?_
      refine Tr.cnd rfl ?_ ?_
      · intro h7
        rw [abs_gcd, dir_b] at h7
        obtain ⟨hc, hd⟩ := dir_t h7
        have he : orE (chkO o) (dirE p q) = 2 := by rw [orE_r hc, hd]
        refine Tr.rg ?_
        refine TrL.op (ok_assign rfl (fun _ => rfl)) rfl rfl ?_
        refine TrL.fin ?_
        refine End.nxt ?_
        refine Tr.seq ?_
        refine Tr.seq ?_
        refine Tr.rg ?_
        refine TrL.op (ok_move rfl (fun _ => rfl)) rfl rfl ?_
        refine TrL.op (ok_neq rfl (fun _ => rfl) rfl (fun _ => rfl)) rfl rfl ?_
        refine TrL.fin ?_
        refine End.nxt ?_
        refine Tr.cnd rfl ?_ ?_
        · intro h9
          refine Tr.seq ?_
          refine Tr.rg ?_
          refine TrL.op (ok_move rfl (fun _ => rfl)) rfl rfl ?_
          refine TrL.op (ok_move rfl (fun _ => rfl)) rfl rfl ?_
          refine TrL.op (ok_eql rfl (fun _ => rfl) rfl (fun _ => rfl)) rfl rfl ?_
          refine TrL.op (ok_move rfl (fun _ => rfl)) rfl rfl ?_
          refine TrL.gd rfl rfl rfl (ok_ldBS rfl (fun _ => rfl)) rfl rfl ?_
          refine TrL.gd rfl rfl rfl (ok_call (fun hp => ct_nothing _) (.s rfl id rfl <| .nil)) rfl rfl ?_
          refine TrL.op (ok_and rfl (fun _ => rfl) rfl (fun hp h => gdT2 ((fun _ => rfl) hp) h)) rfl rfl ?_
          refine TrL.op (ok_assign rfl (fun _ => rfl)) rfl rfl ?_
          refine TrL.fin ?_
          refine End.nxt ?_
          refine Tr.ret ?_
          refine Rts.thn ?_
          exact Rts.res1 (fn := Try.f4) rfl (.b rfl (by simp [he]) <| .nil)
        · intro h9
          simp at h9
      · intro h7
        rw [abs_gcd, dir_b] at h7
        have hf := dir_f h7
        refine Tr.skip ?_
        refine End.nxt ?_
        refine Tr.seq ?_
        refine Tr.seq ?_
        refine Tr.rg ?_
        refine TrL.op (ok_move rfl (fun _ => rfl)) rfl rfl ?_
        refine TrL.op (ok_neq rfl (fun _ => rfl) rfl (fun _ => rfl)) rfl rfl ?_
        refine TrL.fin ?_
        refine End.nxt ?_
        refine Tr.cnd rfl ?_ ?_
        · intro h9
          replace h9 := of_decide_eq_true h9
          have he : orE (chkO o) (dirE p q) = chkO o := orE_l h9
          refine Tr.seq ?_
          refine Tr.rg ?_
          refine TrL.op (ok_move rfl (fun _ => rfl)) rfl rfl ?_
          refine TrL.op (ok_move rfl (fun _ => rfl)) rfl rfl ?_
          refine TrL.op (ok_eql rfl (fun _ => rfl) rfl (fun _ => rfl)) rfl rfl ?_
          refine TrL.op (ok_move rfl (fun _ => rfl)) rfl rfl ?_
          refine TrL.gd rfl rfl rfl (ok_ldBS rfl (fun _ => rfl)) rfl rfl ?_
          refine TrL.gd rfl rfl rfl (ok_call (fun hp => ct_nothing _) (.s rfl id rfl <| .nil)) rfl rfl ?_
          refine TrL.op (ok_and rfl (fun _ => rfl) rfl (fun hp h => gdT2 ((fun _ => rfl) hp) h)) rfl rfl ?_
          refine TrL.op (ok_assign rfl (fun _ => rfl)) rfl rfl ?_
          refine TrL.fin ?_
          refine End.nxt ?_
          refine Tr.ret ?_
          refine Rts.thn ?_
          exact Rts.res1 (fn := Try.f4) rfl (.b rfl (by simp [he, h9]) <| .nil)
        · intro h9
          replace h9 := Classical.not_not.1 (of_decide_eq_false h9)
          have v : Valid o := valid_of h9
          have hd := hf h9
          obtain ⟨htv, _, hts⟩ := tw_ok (p := p) (q := q) q.natAbs (Nat.le_refl _) v
          have he : orE (chkO o) (dirE p q) = 0 := by rw [orE_r h9, hd]
          rw [if_pos he] at *
          refine Tr.skip ?_
          refine End.nxt ?_
          refine Tr.seq ?_
          refine Tr.draw 14 mixed (by kernel_rfl) ?_
          refine RunD.op (ok_move rfl (fun _ => rfl)) rfl rfl ?_
          refine RunD.op (ok_eql rfl (fun _ => rfl) rfl (fun _ => rfl)) rfl rfl ?_
          refine RunD.op (ok_move rfl (fun _ => rfl)) rfl rfl ?_
          refine RunD.gd rfl rfl rfl (ok_ldBS rfl (fun _ => rfl)) rfl rfl ?_
          refine RunD.gd rfl rfl rfl (ok_ldBS rfl (fun _ => rfl)) rfl rfl ?_
          refine RunD.gd rfl rfl rfl (ok_move rfl (fun _ => rfl)) rfl rfl ?_
          refine RunD.gd rfl rfl rfl (ok_move rfl (fun _ => rfl)) rfl rfl ?_
          refine RunD.gd rfl rfl rfl (ok_call (fun hp => ct_rToward _ _ _ v hd) (.s rfl id rfl <| .a rfl id <| .a rfl id <| .nil)) rfl rfl ?_
          refine RunD.gd rfl rfl rfl (ok_call (fun hp => ct_rSame _ _) (.s rfl id rfl <| .a rfl id <| .nil)) rfl rfl ?_
          refine RunD.op (ok_and rfl (fun _ => rfl) rfl (fun hp h => gdT2 ((fun _ => rfl) hp) h)) rfl rfl ?_
          refine RunD.op (ok_move rfl (fun _ => rfl)) rfl rfl ?_
          refine RunD.gd rfl rfl rfl (ok_ldBS rfl (fun _ => rfl)) rfl rfl ?_
          refine RunD.gd rfl rfl rfl (ok_call (fun hp => ct_rStratum _ htv) (.s rfl id rfl <| .nil)) rfl rfl ?_
          refine RunD.gd rfl rfl rfl (ok_ldBS rfl (fun _ => rfl)) rfl rfl ?_
          refine RunD.z ?_
          refine TrL.gd rfl rfl rfl (ok_call (fun hp => ct_rStratum _ v) (.s rfl id rfl <| .nil)) rfl rfl ?_
          refine TrL.gd rfl rfl rfl (ok_call (fun hp => ct_Ints _ _) (.a rfl id <| .a rfl id <| .nil)) rfl rfl ?_
          refine TrL.op (ok_and rfl (fun _ => rfl) rfl (fun hp h => gdT2 ((fun _ => rfl) hp) h)) rfl rfl ?_
          refine TrL.op (ok_assign rfl (fun _ => rfl)) rfl rfl ?_
          refine TrL.fin ?_
          refine End.nxt ?_
          refine Tr.ret ?_
          exact Rts.res1 (fn := Try.f4) rfl (.b rfl (by simp [he, hts]) <| .nil)

end Go.Fl

/- Errors of maps. Plain Lean, no program in sight. -/
namespace Go.Fl
theorem isMapB_all {a b : Ori} {f : List Int} (h : ∀ x, x < a.1.length → ap f (nth a.1 x) = ap b.1 (nth f x) ∧ ap f (nth a.2 x) = ap b.2 (nth f x)) : isMapB a b f = true := by
  unfold isMapB
  simp only [List.all_eq_true, List.mem_range, Bool.and_eq_true, decide_eq_true_eq]
  exact h
theorem isMapB_not {a b : Ori} {f : List Int} {k : Nat} (hk : k < a.1.length) (h : ¬ (ap f (nth a.1 k) = ap b.1 (nth f k) ∧ ap f (nth a.2 k) = ap b.2 (nth f k))) : isMapB a b f = false := by
  cases hh : isMapB a b f with
  | false => rfl
  | true =>
    unfold isMapB at hh
    simp only [List.all_eq_true, List.mem_range, Bool.and_eq_true, decide_eq_true_eq] at hh
    exact absurd (hh k hk) h
def ontoB (n : Nat) (f : List Int) : Bool := (List.range n).all fun y : Nat => decide ((y : Int) ∈ f)
theorem ontoB_all {n : Nat} {f : List Int} (h : ∀ y : Nat, y < n → (y : Int) ∈ f) : ontoB n f = true := by
  unfold ontoB; rw [List.all_eq_true]
  exact fun y hy => decide_eq_true (h y (List.mem_range.1 hy))
theorem ontoB_not {n : Nat} {f : List Int} {k : Nat} (hk : k < n) (h : (k : Int) ∉ f) : ontoB n f = false := by
  cases hh : ontoB n f with
  | false => rfl
  | true =>
    unfold ontoB at hh; rw [List.all_eq_true] at hh
    exact absurd (of_decide_eq_true (hh k (List.mem_range.2 hk))) h
theorem seenB_onto {n : Nat} {f : List Int} : (seenB n f).any (fun x => decide (false = x)) = !ontoB n f := by
  unfold seenB ontoB
  rw [List.any_map]
  induction List.range n with
  | nil => rfl
  | cons y l ih =>
    simp only [List.any_cons, List.all_cons, Function.comp_apply, ih]
    by_cases h : (y : Int) ∈ f <;> simp [h]
def cmE (a b : Ori) (f : List Int) (same : Bool) : Int :=
  orE (chkO a) (orE (chkO b) (if f.length ≠ a.1.length ∨ (same = true ∧ a.1.length ≠ b.1.length) then 10 else if ¬ inR f b.1.length then 2 else if isMapB a b f = true ∧ ontoB b.1.length f = true then 0 else 18))
theorem shp1 {f a b : Nat} {same : Bool} : (decide ((f : Int) ≠ a) || (same && decide ((a : Int) ≠ b))) = decide (f ≠ a ∨ (same = true ∧ a ≠ b)) := by
  rw [Bool.eq_iff_iff]; cases same <;> simp <;> omega
theorem shp2 {f a b : Nat} {same : Bool} : (decide ((f : Int) ≠ a) || (same && decide ((f : Int) ≠ b))) = decide (f ≠ a ∨ (same = true ∧ a ≠ b)) := by
  rw [Bool.eq_iff_iff]; cases same <;> simp <;> omega
section
variable {a b : Ori} {f : List Int} {same : Bool}
theorem cmE_a (h : chkO a ≠ 0) : cmE a b f same = chkO a := orE_l h
theorem cmE_b (h : chkO a = 0) (h2 : chkO b ≠ 0) : cmE a b f same = chkO b := (orE_r h).trans (orE_l h2)
theorem cmE_s (h : chkO a = 0) (h2 : chkO b = 0) (h3 : f.length ≠ a.1.length ∨ (same = true ∧ a.1.length ≠ b.1.length)) : cmE a b f same = 10 := by unfold cmE; rw [orE_r h, orE_r h2, if_pos h3]
theorem cmE_r (h : chkO a = 0) (h2 : chkO b = 0) (h3 : ¬ (f.length ≠ a.1.length ∨ (same = true ∧ a.1.length ≠ b.1.length))) {k : Nat} (hk : k < f.length) (h4 : ¬ (0 ≤ nth f k ∧ nth f k < b.1.length)) : cmE a b f same = 2 := by
  unfold cmE; rw [orE_r h, orE_r h2, if_neg h3, if_pos fun hh => h4 (hh k hk)]
theorem cmE_m (h : chkO a = 0) (h2 : chkO b = 0) (h3 : ¬ (f.length ≠ a.1.length ∨ (same = true ∧ a.1.length ≠ b.1.length))) (h4 : inR f b.1.length) : cmE a b f same = if isMapB a b f = true ∧ ontoB b.1.length f = true then 0 else 18 := by
  unfold cmE; rw [orE_r h, orE_r h2, if_neg h3, if_neg (fun hh => hh h4)]
theorem cmE_p (h : chkO a = 0) (h2 : chkO b = 0) (h3 : ¬ (f.length ≠ a.1.length ∨ (same = true ∧ a.1.length ≠ b.1.length))) (h4 : inR f b.1.length) (h5 : isMapB a b f = false ∨ ontoB b.1.length f = false) : cmE a b f same = 18 := by
  rw [cmE_m h h2 h3 h4, if_neg]
  rintro ⟨h6, h7⟩
  rcases h5 with h5 | h5
  · rw [h5] at h6; cases h6
  · rw [h5] at h7; cases h7
theorem cmE_0 (h : chkO a = 0) (h2 : chkO b = 0) (h3 : ¬ (f.length ≠ a.1.length ∨ (same = true ∧ a.1.length ≠ b.1.length))) (h4 : inR f b.1.length) (h5 : isMapB a b f = true) (h6 : ontoB b.1.length f = true) : cmE a b f same = 0 := by
  rw [cmE_m h h2 h3 h4, if_pos ⟨h5, h6⟩]
end
theorem cm2 {a b : Ori} {f : List Int} {same : Bool} {k : Nat} (hk : k < 2) (hp : 0 < k → chkO a = 0) (h : chkO (nth [a, b] k) ≠ 0) : chkO (nth [a, b] k) = cmE a b f same := by
  rcases k with _ | _ | k
  · exact (cmE_a h).symm
  · exact (cmE_b (hp (by omega)) h).symm
  · omega
end Go.Fl
