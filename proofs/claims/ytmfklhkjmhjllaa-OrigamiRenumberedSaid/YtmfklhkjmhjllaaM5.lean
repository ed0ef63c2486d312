/- THE LAW OrigamiRenumbered HOLDS FOR EVERY INPUT: whatever the arguments, the call returns true, and each argument reads behind it as before. Conditions: those of the given row (its listed variables as the program lays them). -/
import Derived.Test.YtmfklhkjmhjllaaM4
import Derived.Test.YtmfklhkjmhjllaaRows

/- Contracts: the periods, in the program. -/
namespace Go.Fl
open Go Go.Proofs

set_option maxRecDepth 100000 in
set_option maxHeartbeats 2000000 in
theorem ct_oPeriods (o : Ori) : Ct Try.prog 16 [kRd eO o] (kTup [kRd eLat (if chk1 o = 0 then perL o else (0, 0, 0)), kI (chk1 o)]) := by
  refine Ct.mk Try.func16 rfl Try.ntmps16 rfl (fun w J => ?_)
  refine Tr.seq ?_
  refine Tr.rg ?_
  refine TrL.new (ok_box 1 rfl (fun _ => rfl) rfl) rfl rfl rfl rfl ?_
  refine TrL.new (ok_alloc 2) rfl rfl rfl rfl ?_
  refine TrL.op (ok_assign rfl (fun _ => rfl)) rfl rfl ?_
  refine TrL.fin ?_
  refine End.nxt ?_
  refine Tr.seq ?_
  refine Tr.seq ?_
  refine Tr.rg ?_
  refine TrL.op (ok_ldBS rfl (fun _ => rfl)) rfl rfl ?_
  refine TrL.op (ok_bslJ eO (fun hp => .cons rfl <| .nil) rfl rfl rfl rfl) rfl rfl ?_
  refine TrL.op (ok_call (fun hp => ct_connected [o]) (.a rfl (fun _ => rfl) <| .nil)) rfl rfl ?_
  refine TrL.op (ok_assign rfl (fun _ => rfl)) rfl rfl ?_
  refine TrL.fin ?_
  refine End.nxt ?_
  refine Tr.seq ?_
  refine Tr.rg ?_
  refine TrL.op (ok_move rfl (fun _ => rfl)) rfl rfl ?_
  refine TrL.op (ok_neq rfl (fun _ => rfl) rfl (fun _ => rfl)) rfl rfl ?_
  refine TrL.fin ?_
  refine End.nxt ?_
  refine Tr.cnd rfl ?_ ?_
  · intro h2
    replace h2 := of_decide_eq_true h2
    rw [connE_one] at h2
    refine Tr.seq ?_
    refine Tr.rg ?_
    refine TrL.op (ok_build (fun hp => .nil)) rfl rfl ?_
    refine TrL.op (ok_move rfl (fun _ => rfl)) rfl rfl ?_
    refine TrL.stB rfl rfl rfl rfl ?_
    refine TrL.op (ok_assign rfl (fun _ => rfl)) rfl rfl ?_
    refine TrL.fin ?_
    refine End.nxt ?_
    refine Tr.ret ?_
    refine Rts.thn ?_
    exact Rts.resC (fn := Try.f16) (ts := [3]) rfl rfl rfl (aggRd rfl (by rw [if_neg h2])) (.i rfl (by rw [connE_one]) <| .nil)
  · intro h2
    replace h2 := Classical.not_not.1 (of_decide_eq_false h2)
    rw [connE_one] at h2
    obtain ⟨v, cn⟩ := chk1_zero h2
    have hv0 := v.pos
    have hv1 := v.len
    have hv2 := v.le
    have h00 : Sq o.1.length 0 := ⟨by omega, by omega⟩
    have hg0 := good1 h00
    refine Tr.skip ?_
    refine End.nxt ?_
    refine Tr.seq ?_
    refine Tr.rg ?_
    refine TrL.op (ok_fldO rfl (fun _ => rfl)) rfl rfl ?_
    refine TrL.op (ok_ldB rfl (fun _ => rfl) rfl) rfl rfl ?_
    refine TrL.op (ok_lenJ rfl (fun _ => rfl)) rfl rfl ?_
    refine TrL.op (ok_assign rfl (fun _ => rfl)) rfl rfl ?_
    refine TrL.fin ?_
    refine End.nxt ?_
    refine Tr.seq ?_
    refine Tr.draw 5 mixed (by kernel_rfl) ?_
    refine RunD.op (ok_move rfl (fun _ => rfl)) rfl rfl ?_
    refine RunD.new (ok_makeN (eP eI (eP eI eU)) 26 rfl (fun _ => rfl) rfl (fun _ => rfl) rfl rfl rfl (fun _ => by omega)) rfl rfl rfl rfl ?_
    refine RunD.op (ok_move rfl (fun _ => rfl)) rfl rfl ?_
    refine RunD.new (ok_makeN eBool 28 rfl (fun _ => rfl) rfl (fun _ => rfl) rfl rfl rfl (fun _ => by omega)) rfl rfl rfl rfl ?_
    refine RunD.opN (ok_assign rfl (fun _ => rfl)) rfl rfl ?_
    refine RunD.z ?_
    refine TrL.op (ok_assign rfl (fun _ => rfl)) rfl rfl ?_
    refine TrL.fin ?_
    refine End.nxt ?_
    refine Tr.seq ?_
    refine Tr.rg ?_
    refine TrL.op (ok_move rfl (fun _ => rfl)) rfl rfl ?_
    first | refine TrL.op (ok_idxEN rfl (fun _ => rfl) rfl (fun _ => rfl) (fun _ => by omega)) rfl rfl ?_ | refine TrL.op (ok_idxE rfl (fun _ => rfl) rfl (fun _ => rfl) (fun _ => by omega)) rfl rfl ?_
    refine TrL.stE rfl rfl rfl rfl rfl ?_
    refine TrL.fin ?_
    refine End.nxt ?_
    refine Tr.seq ?_
    refine Tr.rg ?_
    refine TrL.new (ok_bsl eI 31 (fun hp => .cons rfl <| .nil) rfl rfl rfl rfl) rfl rfl rfl rfl ?_
    refine TrL.op (ok_assign rfl (fun _ => rfl)) rfl rfl ?_
    refine TrL.fin ?_
    refine End.nxt ?_
    refine Tr.seq ?_
    refine Tr.rg ?_
    refine TrL.new (ok_alloc 9) rfl rfl rfl rfl ?_
    refine TrL.fin ?_
    refine End.nxt ?_
    refine Tr.seq ?_
    refine Tr.seq ?_
    refine Tr.rg ?_
    refine TrL.op (ok_assign rfl (fun _ => rfl)) rfl rfl ?_
    refine TrL.fin ?_
    refine End.nxt ?_
    refine Tr.for1 (σ := Nat × List (Int × Int × Unit) × L3) [⟨1, true, _, _⟩, ⟨2, true, _, _⟩, ⟨6, true, _, _⟩, ⟨7, true, _, _⟩, ⟨9, true, _, _⟩] [⟨1, _, _⟩, ⟨2, _, _⟩] (fun (k, at0, l0) => [⟨8, true, [31], kOsl 31 (bfsTo o [] 0 k).length⟩, ⟨10, true, [], kI (k : Int)⟩]) (fun (k, at0, l0) => [⟨26, [], cArr false 78 (eP eI (eP eI eU)) at0 o.1.length⟩, ⟨28, [], cArr false 4 eBool (seenB o.1.length (bfsTo o [] 0 k)) o.1.length⟩, ⟨9, [], cBlk [kI l0.1, kI l0.2.1, kI l0.2.2]⟩, ⟨31, [], cArr false 3 eI (bfsTo o [] 0 k) (bfsTo o [] 0 k).length⟩]) (fun (k, at0, l0) => k ≤ o.1.length ∧ PB o k 0 at0 l0 (bfsTo o [] 0 k)) (fun (k, at0, l0) => l0 = perL o) (fun (k, at0, l0) => o.1.length - k) ((0, List.replicate o.1.length (0, 0, ()), (0, 0, 0))) ⟨Nat.zero_le _, PB.start v⟩ (Ent.mk (.o rfl (by first | rfl | omega | (simp; done) | (simp; omega) | assumption) rfl <| .i rfl (by first | rfl | omega | (simp; done) | (simp; omega) | assumption) <| .k rfl rfl <| .k rfl rfl <| .k rfl rfl <| .k rfl rfl <| .k rfl rfl <| .nil) (.a (by first | rfl | omega | (simp; done) | (simp; omega) | assumption) (by first | rfl | omega | (simp; done) | (simp; omega) | assumption) <| .a (by rw [seenB_nil]; exact seenB_set (x := 0) (by omega)) (by first | rfl | omega | (simp; done) | (simp; omega) | assumption) <| .e (by rfl) rfl <| .a (by first | rfl | omega | (simp; done) | (simp; omega) | assumption) (by first | rfl | omega | (simp; done) | (simp; omega) | assumption) <| .k rfl <| .k rfl <| .nil) rfl) ?_ ?_
    · rintro ⟨k, at0, l0⟩ ⟨hk, hpb⟩
      refine Tr.norm (S' := [⟨8, true, _, _⟩, ⟨10, true, _, _⟩, ⟨1, true, _, _⟩, ⟨2, true, _, _⟩, ⟨6, true, _, _⟩, ⟨7, true, _, _⟩, ⟨9, true, _, _⟩]) (M' := [⟨26, _, _⟩, ⟨28, _, _⟩, ⟨9, _, _⟩, ⟨31, _, _⟩, ⟨1, _, _⟩, ⟨2, _, _⟩]) rfl rfl ?_
      have hlen := bfsTo_len v hg0 k
      have hat0 := hpb.len
      refine Tr.seq ?_
      refine Tr.seq ?_
      refine Tr.rg ?_
      refine TrL.op (ok_move rfl (fun _ => rfl)) rfl rfl ?_
      refine TrL.op (ok_move rfl (fun _ => rfl)) rfl rfl ?_
      refine TrL.op (ok_lenO rfl (fun _ => rfl)) rfl rfl ?_
      refine TrL.op (ok_lss rfl (fun _ => rfl) rfl (fun _ => rfl)) rfl rfl ?_
      refine TrL.fin ?_
      refine End.nxt ?_
      refine Tr.cnd rfl ?_ ?_
      · intro h10
        replace h10 := of_decide_eq_true h10
        have hlt : k < (bfsTo o [] 0 k).length := by omega
        have hxr := srch_x v hg0 hlt
        have hx0 := hxr.1
        have hx1 := hxr.2
        refine Tr.skip ?_
        refine End.nxt ?_
        refine Tr.seq ?_
        refine Tr.blk ?_
        refine Tr.seq ?_
        refine Tr.rg ?_
        refine TrL.op (ok_move rfl (fun _ => rfl)) rfl rfl ?_
        refine TrL.op (ok_move rfl (fun _ => rfl)) rfl rfl ?_
        first | refine TrL.op (ok_idxEN rfl (fun _ => rfl) rfl (fun _ => rfl) (fun _ => by omega)) rfl rfl ?_ | refine TrL.op (ok_idxE rfl (fun _ => rfl) rfl (fun _ => rfl) (fun _ => by omega)) rfl rfl ?_
        refine TrL.op (ok_ldE rfl (fun _ => rfl) rfl rfl rfl) rfl rfl ?_
        refine TrL.op (ok_assign rfl (fun _ => rfl)) rfl rfl ?_
        refine TrL.fin ?_
        refine End.nxt ?_
        refine Tr.seq ?_
        refine Tr.draw 12 mixed (by kernel_rfl) ?_
        refine RunD.op (ok_fldO rfl (fun _ => rfl)) rfl rfl ?_
        refine RunD.op (ok_ldB rfl (fun _ => rfl) rfl) rfl rfl ?_
        refine RunD.op (ok_move rfl (fun _ => rfl)) rfl rfl ?_
        first | refine RunD.op (ok_idxN rfl (fun _ => rfl) rfl (fun _ => rfl) rfl (fun _ => by omega)) rfl rfl ?_ | refine RunD.op (ok_idxP rfl (fun _ => rfl) rfl (fun _ => rfl) rfl (fun _ => by omega)) rfl rfl ?_
        refine RunD.op (ok_ldP rfl (fun _ => rfl) rfl) rfl rfl ?_
        refine RunD.op (ok_fldO rfl (fun _ => rfl)) rfl rfl ?_
        refine RunD.op (ok_ldB rfl (fun _ => rfl) rfl) rfl rfl ?_
        refine RunD.op (ok_move rfl (fun _ => rfl)) rfl rfl ?_
        first | refine RunD.op (ok_idxN rfl (fun _ => rfl) rfl (fun _ => rfl) rfl (fun _ => by omega)) rfl rfl ?_ | refine RunD.op (ok_idxP rfl (fun _ => rfl) rfl (fun _ => rfl) rfl (fun _ => by omega)) rfl rfl ?_
        refine RunD.op (ok_ldP rfl (fun _ => rfl) rfl) rfl rfl ?_
        refine RunD.op (ok_buildL [(0, 1), (1, 1)] rfl (fun hp => .cons rfl rfl rfl <| .cons rfl rfl rfl <| .nil)) rfl rfl ?_
        refine RunD.op (ok_move rfl (fun _ => rfl)) rfl rfl ?_
        refine RunD.z ?_
        refine TrL.fin ?_
        refine End.nxt ?_
        refine Tr.for1 (σ := Nat × List (Int × Int × Unit) × L3) [⟨1, true, _, _⟩, ⟨2, true, _, _⟩, ⟨6, true, _, _⟩, ⟨7, true, _, _⟩, ⟨9, true, _, _⟩, ⟨10, true, _, _⟩, ⟨11, true, _, _⟩, ⟨52, true, _, _⟩] [⟨1, _, _⟩, ⟨2, _, _⟩] (fun (j, at1, l1) => [⟨8, true, [31], kOsl 31 (srch o [] 0 k j).length⟩, ⟨53, true, [], kI (j : Int)⟩]) (fun (j, at1, l1) => [⟨26, [], cArr false 78 (eP eI (eP eI eU)) at1 o.1.length⟩, ⟨28, [], cArr false 4 eBool (seenB o.1.length (srch o [] 0 k j)) o.1.length⟩, ⟨9, [], cBlk [kI l1.1, kI l1.2.1, kI l1.2.2]⟩, ⟨31, [], cArr false 3 eI (srch o [] 0 k j) (srch o [] 0 k j).length⟩]) (fun (j, at1, l1) => j ≤ 2 ∧ PB o k j at1 l1 (srch o [] 0 k j)) (fun (j, at1, l1) => j = 2 ∧ PB o k 2 at1 l1 (srch o [] 0 k 2)) (fun (j, at1, l1) => 2 - j) ((0, at0, l0)) ⟨by omega, hpb⟩ (Ent.mk (.o rfl (by first | rfl | omega | (simp; done) | (simp; omega) | assumption) rfl <| .i rfl (by first | rfl | omega | (simp; done) | (simp; omega) | assumption) <| .k rfl rfl <| .k rfl rfl <| .k rfl rfl <| .k rfl rfl <| .k rfl rfl <| .k rfl rfl <| .k rfl rfl <| .k rfl rfl <| .nil) (.a (by first | rfl | omega | (simp; done) | (simp; omega) | assumption) (by first | rfl | omega | (simp; done) | (simp; omega) | assumption) <| .a (by first | rfl | omega | (simp; done) | (simp; omega) | assumption) (by first | rfl | omega | (simp; done) | (simp; omega) | assumption) <| .e (by rfl) rfl <| .a (by first | rfl | omega | (simp; done) | (simp; omega) | assumption) (by first | rfl | omega | (simp; done) | (simp; omega) | assumption) <| .k rfl <| .k rfl <| .nil) rfl) ?_ ?_
        · rintro ⟨j, at1, l1⟩ ⟨hj, hp1⟩
          refine Tr.norm (S' := [⟨8, true, _, _⟩, ⟨53, true, _, _⟩, ⟨1, true, _, _⟩, ⟨2, true, _, _⟩, ⟨6, true, _, _⟩, ⟨7, true, _, _⟩, ⟨9, true, _, _⟩, ⟨10, true, _, _⟩, ⟨11, true, _, _⟩, ⟨52, true, _, _⟩]) (M' := [⟨26, _, _⟩, ⟨28, _, _⟩, ⟨9, _, _⟩, ⟨31, _, _⟩, ⟨1, _, _⟩, ⟨2, _, _⟩]) rfl rfl ?_
          have hat1 := hp1.len
          have hgl := srch_len (j := j) v hg0 hlt
          have hxe := srch_at (o := o) (F := []) (s := 0) (j := j) hlt
          refine Tr.seq ?_
          refine Tr.rg ?_
          refine TrL.op (ok_lss rfl (fun _ => rfl) rfl (fun _ => rfl)) rfl rfl ?_
          refine TrL.fin ?_
          refine End.nxt ?_
          refine Tr.seq ?_
          refine Tr.cnd rfl ?_ ?_
          · intro h14
            replace h14 := of_decide_eq_true h14
            have hy := srch_y v hg0 hlt (j := j) (by omega)
            have hyY : 0 ≤ nth [nth o.1 (nth (bfsTo o [] 0 k) k).toNat, nth o.2 (nth (bfsTo o [] 0 k) k).toNat] j ∧ nth [nth o.1 (nth (bfsTo o [] 0 k) k).toNat, nth o.2 (nth (bfsTo o [] 0 k) k).toNat] j < o.1.length := hy
            have hnn := nth_seenB' (S := srch o [] 0 k j) hy.1 hy.2
            have hnn2 : nth (seenB o.1.length (srch o [] 0 k j)) (nth [nth o.1 (nth (bfsTo o [] 0 k) k).toNat, nth o.2 (nth (bfsTo o [] 0 k) k).toNat] j).toNat = _ := hnn
            have hyy : edg o (nth (srch o [] 0 k j) k) j = nth [nth o.1 (nth (bfsTo o [] 0 k) k).toNat, nth o.2 (nth (bfsTo o [] 0 k) k).toNat] j := by (rw [hxe.1, ← edg_stp (by omega)]; rfl)
            have hpx := hp1.pb v (nth_mem hxe.2)
            rw [hxe.1] at hpx
            unfold pAt at hpx
            simp only at hpx
            have huni : uni (pAt at1 (nth (srch o [] 0 k j) k)) j = ((if j = 0 then (if j = 0 then (nth at1 (nth (bfsTo o [] 0 k) k).toNat).1 else (nth at1 (nth (bfsTo o [] 0 k) k).toNat).2.1) + 1 else (nth at1 (nth (bfsTo o [] 0 k) k).toNat).1), (if j = 0 then (nth at1 (nth (bfsTo o [] 0 k) k).toNat).2.1 else (if j = 0 then (nth at1 (nth (bfsTo o [] 0 k) k).toNat).1 else (nth at1 (nth (bfsTo o [] 0 k) k).toNat).2.1) + 1)) := by rw [hxe.1]; exact to_uni
            refine Tr.skip ?_
            refine End.nxt ?_
            refine Tr.seq ?_
            refine Tr.blk ?_
            refine Tr.seq ?_
            refine Tr.rg ?_
            refine TrL.op (ok_move rfl (fun _ => rfl)) rfl rfl ?_
            refine TrL.op (ok_idxA eI rfl (fun _ => rfl) rfl (fun _ => rfl) rfl rfl (fun _ => ⟨by omega, by simp; omega⟩)) rfl rfl ?_
            refine TrL.op (ok_assign rfl (fun _ => rfl)) rfl rfl ?_
            refine TrL.op (ok_assign rfl (fun _ => rfl)) rfl rfl ?_
            refine TrL.fin ?_
            refine End.nxt ?_
            refine Tr.seq ?_
            refine Tr.rg ?_
            refine TrL.op (ok_move rfl (fun _ => rfl)) rfl rfl ?_
            refine TrL.op (ok_move rfl (fun _ => rfl)) rfl rfl ?_
            first | refine TrL.op (ok_idxEN rfl (fun _ => rfl) rfl (fun _ => rfl) (fun _ => by omega)) rfl rfl ?_ | refine TrL.op (ok_idxE rfl (fun _ => rfl) rfl (fun _ => rfl) (fun _ => by omega)) rfl rfl ?_
            refine TrL.op (ok_ldEA rfl (fun _ => rfl) rfl rfl rfl rfl) rfl rfl ?_
            refine TrL.new (ok_alloc 14) rfl rfl rfl rfl ?_
            refine TrL.stB rfl rfl rfl rfl ?_
            refine TrL.fin ?_
            refine End.nxt ?_
            refine Tr.seq ?_
            refine Tr.rg ?_
            refine TrL.op (ok_move rfl (fun _ => rfl)) rfl rfl ?_
            refine TrL.op (ok_idxArrO rfl (fun _ => rfl) rfl (fun _ => rfl) (fun _ => by omega)) rfl rfl ?_
            refine TrL.op (ok_ldBV (j := j) (by omega) rfl (fun _ => rfl)) rfl rfl ?_
            refine TrL.op (ok_add rfl (fun _ => rfl) rfl (fun _ => rfl) (fun _ => by split <;> omega)) rfl rfl ?_
            refine TrL.op (ok_idxArrO rfl (fun _ => rfl) rfl (fun _ => rfl) (fun _ => by omega)) rfl rfl ?_
            refine TrL.stBV (j := j) (by omega) rfl rfl rfl ?_
            refine TrL.fin ?_
            refine End.nxt ?_
            refine Tr.seq ?_
            refine Tr.seq ?_
            refine Tr.rg ?_
            refine TrL.op (ok_move rfl (fun _ => rfl)) rfl rfl ?_
            refine TrL.op (ok_move rfl (fun _ => rfl)) rfl rfl ?_
            first | refine TrL.op (ok_idxEN rfl (fun _ => rfl) rfl (fun _ => rfl) (fun _ => by omega)) rfl rfl ?_ | refine TrL.op (ok_idxE rfl (fun _ => rfl) rfl (fun _ => rfl) (fun _ => by omega)) rfl rfl ?_
            refine TrL.op (ok_ldE rfl (fun _ => rfl) rfl rfl rfl) rfl rfl ?_
            refine TrL.fin ?_
            refine End.nxt ?_
            refine Tr.cnd rfl ?_ ?_
            · intro h18
              rw [hnn2] at h18
              have hold := of_decide_eq_true h18
              have hyL : edg o (nth (srch o [] 0 k j) k) j ∈ (srch o [] 0 k j) := by rw [hyy]; exact hold
              have hb := hp1.db v (nth_mem hxe.2) hyL
              have hdx : (if j = 0 then (if j = 0 then (nth at1 (nth (bfsTo o [] 0 k) k).toNat).1 else (nth at1 (nth (bfsTo o [] 0 k) k).toNat).2.1) + 1 else (nth at1 (nth (bfsTo o [] 0 k) k).toNat).1) - (nth at1 (nth [nth o.1 (nth (bfsTo o [] 0 k) k).toNat, nth o.2 (nth (bfsTo o [] 0 k) k).toNat] j).toNat).1 = (dfE o (pAt at1) (nth (srch o [] 0 k j) k) j).1 := by unfold dfE; rw [huni, hyy]; rfl
              have hdy : (if j = 0 then (nth at1 (nth (bfsTo o [] 0 k) k).toNat).2.1 else (if j = 0 then (nth at1 (nth (bfsTo o [] 0 k) k).toNat).1 else (nth at1 (nth (bfsTo o [] 0 k) k).toNat).2.1) + 1) - (nth at1 (nth [nth o.1 (nth (bfsTo o [] 0 k) k).toNat, nth o.2 (nth (bfsTo o [] 0 k) k).toNat] j).toNat).2.1 = (dfE o (pAt at1) (nth (srch o [] 0 k j) k) j).2 := by unfold dfE; rw [huni, hyy]; rfl
              have ba := hp1.bd.a
              have bn := hp1.nf.a
              have hput := ct_put l1 ((if j = 0 then (if j = 0 then (nth at1 (nth (bfsTo o [] 0 k) k).toNat).1 else (nth at1 (nth (bfsTo o [] 0 k) k).toNat).2.1) + 1 else (nth at1 (nth (bfsTo o [] 0 k) k).toNat).1) - (nth at1 (nth [nth o.1 (nth (bfsTo o [] 0 k) k).toNat, nth o.2 (nth (bfsTo o [] 0 k) k).toNat] j).toNat).1) ((if j = 0 then (nth at1 (nth (bfsTo o [] 0 k) k).toNat).2.1 else (if j = 0 then (nth at1 (nth (bfsTo o [] 0 k) k).toNat).1 else (nth at1 (nth (bfsTo o [] 0 k) k).toNat).2.1) + 1) - (nth at1 (nth [nth o.1 (nth (bfsTo o [] 0 k) k).toNat, nth o.2 (nth (bfsTo o [] 0 k) k).toNat] j).toNat).2.1) _ 130 hp1.nf (by rw [hdx, hdy]; exact Bd.start hp1.nf hp1.bd hb.1 hb.2) (by omega) (by omega) (by omega)
              refine Tr.seq ?_
              refine Tr.draw 16 mixed (by kernel_rfl) ?_
              refine RunD.op (ok_idxArrO rfl (fun _ => rfl) rfl (fun _ => rfl) (fun _ => by decide)) rfl rfl ?_
              refine RunD.op (ok_ldB rfl (fun _ => rfl) rfl) rfl rfl ?_
              refine RunD.op (ok_move rfl (fun _ => rfl)) rfl rfl ?_
              refine RunD.op (ok_move rfl (fun _ => rfl)) rfl rfl ?_
              first | refine RunD.op (ok_idxEN rfl (fun _ => rfl) rfl (fun _ => rfl) (fun _ => by omega)) rfl rfl ?_ | refine RunD.op (ok_idxE rfl (fun _ => rfl) rfl (fun _ => rfl) (fun _ => by omega)) rfl rfl ?_
              refine RunD.op (ok_idxElA rfl (fun _ => rfl) rfl (fun _ => rfl) (fun _ => by decide)) rfl rfl ?_
              refine RunD.op (ok_ldElI cellI_a rfl (fun _ => rfl) rfl rfl) rfl rfl ?_
              refine RunD.op (ok_sub rfl (fun _ => rfl) rfl (fun _ => rfl) (fun _ => by rw [hdx]; omega)) rfl rfl ?_
              refine RunD.op (ok_idxArrO rfl (fun _ => rfl) rfl (fun _ => rfl) (fun _ => by decide)) rfl rfl ?_
              refine RunD.op (ok_ldB rfl (fun _ => rfl) rfl) rfl rfl ?_
              refine RunD.op (ok_move rfl (fun _ => rfl)) rfl rfl ?_
              refine RunD.op (ok_move rfl (fun _ => rfl)) rfl rfl ?_
              first | refine RunD.op (ok_idxEN rfl (fun _ => rfl) rfl (fun _ => rfl) (fun _ => by omega)) rfl rfl ?_ | refine RunD.op (ok_idxE rfl (fun _ => rfl) rfl (fun _ => rfl) (fun _ => by omega)) rfl rfl ?_
              refine RunD.op (ok_idxElA rfl (fun _ => rfl) rfl (fun _ => rfl) (fun _ => by decide)) rfl rfl ?_
              refine RunD.op (ok_ldElI cellI_b rfl (fun _ => rfl) rfl rfl) rfl rfl ?_
              refine RunD.op (ok_sub rfl (fun _ => rfl) rfl (fun _ => rfl) (fun _ => by rw [hdy]; omega)) rfl rfl ?_
              refine RunD.z ?_
              refine TrL.mutP (hput) rfl (.a rfl (fun _ => rfl) <| .a rfl (fun _ => rfl) <| .nil) (fun _ _ _ _ h => cBlk_go h) (fun h => cBlk_go h) rfl ?_
              refine TrL.fin ?_
              refine End.nxt ?_
              refine Tr.exit ?_
              refine Exs.thn ?_
              refine Exs.here ?_
              refine End.nxt ?_
              refine Tr.rg ?_
              refine TrL.op (ok_add rfl (fun _ => rfl) rfl (fun _ => rfl) (fun _ => by omega)) rfl rfl ?_
              refine TrL.op (ok_move rfl (fun _ => rfl)) rfl rfl ?_
              refine TrL.fin ?_
              exact End.lp ((j + 1, at1, latA l1 (dfE o (pAt at1) (nth (srch o [] 0 k j) k) j))) ⟨by omega, by rw [srch_in (by omega) hold]; exact hp1.old v hxe.2 (by omega) hyL⟩ (show 2 - (j + 1) < 2 - j by omega) (Ent.mk (.o rfl (by rw [srch_in (by omega) hold]) rfl <| .i rfl (by first | rfl | omega | (simp; done) | (simp; omega) | assumption) <| .k rfl rfl <| .k rfl rfl <| .k rfl rfl <| .k rfl rfl <| .k rfl rfl <| .k rfl rfl <| .k rfl rfl <| .k rfl rfl <| .nil) (.a (by first | rfl | omega | (simp; done) | (simp; omega) | assumption) (by first | rfl | omega | (simp; done) | (simp; omega) | assumption) <| .a (by rw [srch_in (by omega) hold]) (by first | rfl | omega | (simp; done) | (simp; omega) | assumption) <| .e (by rw [hdx, hdy]) rfl <| .a (by rw [srch_in (by omega) hold]) (by rw [srch_in (by omega) hold]) <| .k rfl <| .k rfl <| .nil) rfl)
            · intro h18
              rw [hnn2] at h18
              have hnew := of_decide_eq_false h18
              have hyL : edg o (nth (srch o [] 0 k j) k) j ∉ (srch o [] 0 k j) := by rw [hyy]; exact hnew
              have hyE : Sq o.1.length (edg o (nth (srch o [] 0 k j) k) j) := by rw [hyy]; exact hy
              refine Tr.skip ?_
              refine End.nxt ?_
              refine Tr.seq ?_
              refine Tr.drawS 6 28 mixed (by kernel_rfl) ?_
              refine RunS.opA (ok_move rfl (fun _ => rfl)) (by kernel_rfl) rfl rfl ?_
              refine RunS.opA (ok_move rfl (fun _ => rfl)) (by kernel_rfl) rfl rfl ?_
              refine RunS.op (ok_move rfl (fun _ => rfl)) rfl rfl ?_
              refine RunS.op (ok_move rfl (fun _ => rfl)) rfl rfl ?_
              refine RunS.op (ok_ldBS rfl (fun _ => rfl)) rfl rfl ?_
              first | refine RunS.opA (ok_idxEN rfl (fun _ => rfl) rfl (fun _ => rfl) (fun _ => by omega)) (by kernel_rfl) rfl rfl ?_ | refine RunS.opA (ok_idxE rfl (fun _ => rfl) rfl (fun _ => rfl) (fun _ => by omega)) (by kernel_rfl) rfl rfl ?_
              refine RunS.z (st_E rfl rfl rfl rfl rfl) rfl rfl rfl ?_
              first | refine TrL.op (ok_idxEN rfl (fun _ => rfl) rfl (fun _ => rfl) (fun _ => by omega)) rfl rfl ?_ | refine TrL.op (ok_idxE rfl (fun _ => rfl) rfl (fun _ => rfl) (fun _ => by omega)) rfl rfl ?_
              refine TrL.stE rfl rfl rfl rfl rfl ?_
              refine TrL.fin ?_
              refine End.nxt ?_
              refine Tr.rg ?_
              refine TrL.op (ok_move rfl (fun _ => rfl)) rfl rfl ?_
              refine TrL.op (ok_move rfl (fun _ => rfl)) rfl rfl ?_
              refine TrL.new (ok_bsl eI 96 (fun hp => .cons rfl <| .nil) rfl rfl rfl rfl) rfl rfl rfl rfl ?_
              refine TrL.app rfl rfl rfl rfl rfl rfl rfl rfl (by first | omega | (simp only [List.length_cons, List.length_nil]; omega)) (by first | omega | (simp only [List.length_cons, List.length_nil]; omega)) ?_
              refine TrL.norm (S' := ⟨_, _, _, _⟩ :: ⟨_, _, _, _⟩ :: ⟨_, _, _, _⟩ :: ⟨_, _, _, _⟩ :: ⟨_, _, _, _⟩ :: ⟨_, _, _, _⟩ :: ⟨_, _, _, _⟩ :: ⟨_, _, _, _⟩ :: ⟨_, _, _, _⟩ :: ⟨_, _, _, _⟩ :: ⟨_, _, _, _⟩ :: ⟨_, _, _, _⟩ :: ⟨_, _, _, _⟩ :: ⟨_, _, _, _⟩ :: ⟨_, _, _, _⟩ :: ⟨_, _, _, _⟩ :: ⟨_, _, _, _⟩ :: ⟨_, _, _, _⟩ :: ⟨_, _, _, _⟩ :: ⟨_, _, _, _⟩ :: ⟨_, _, _, _⟩ :: ⟨_, _, _, _⟩ :: ⟨_, _, _, _⟩ :: ⟨_, _, _, _⟩ :: ⟨_, _, _, _⟩ :: ⟨_, _, _, _⟩ :: ⟨_, _, _, _⟩ :: ⟨_, _, _, _⟩ :: ⟨_, _, _, _⟩ :: ⟨_, _, _, _⟩ :: ⟨_, _, _, _⟩ :: ⟨_, _, _, _⟩ :: ⟨_, _, _, _⟩ :: ⟨_, _, _, _⟩ :: ⟨_, _, _, _⟩ :: ⟨_, _, _, _⟩ :: ⟨_, _, _, _⟩ :: ⟨_, _, _, _⟩ :: ⟨_, _, _, _⟩ :: ⟨_, _, _, _⟩ :: []) rfl rfl ?_
              refine TrL.op (ok_assign rfl (fun _ => rfl)) rfl rfl ?_
              refine TrL.fin ?_
              refine End.blk ?_
              refine End.nxt ?_
              refine Tr.rg ?_
              refine TrL.op (ok_add rfl (fun _ => rfl) rfl (fun _ => rfl) (fun _ => by omega)) rfl rfl ?_
              refine TrL.op (ok_move rfl (fun _ => rfl)) rfl rfl ?_
              refine TrL.fin ?_
              exact End.lp ((j + 1, at1.set (edg o (nth (srch o [] 0 k j) k) j).toNat ((uni (pAt at1 (nth (srch o [] 0 k j) k)) j).1, (uni (pAt at1 (nth (srch o [] 0 k j) k)) j).2, ()), l1)) ⟨by omega, by rw [srch_new (by omega) hnew, edg_stp (by omega), ← hxe.1]; exact hp1.new hxe.2 (by omega) hyE hyL (by rfl)⟩ (show 2 - (j + 1) < 2 - j by omega) (Ent.mk (.o rfl (by rw [srch_new (by omega) hnew, List.length_append]; rfl) rfl <| .i rfl (by first | rfl | omega | (simp; done) | (simp; omega) | assumption) <| .k rfl rfl <| .k rfl rfl <| .k rfl rfl <| .k rfl rfl <| .k rfl rfl <| .k rfl rfl <| .k rfl rfl <| .k rfl rfl <| .nil) (.a (by rw [huni, hyy]) (by first | rfl | omega | (simp; done) | (simp; omega) | assumption) <| .a (by rw [srch_new (by omega) hnew]; exact seenB_set (x := nth (stp o (nth (bfsTo o [] 0 k) k)) j) hy.1) (by first | rfl | omega | (simp; done) | (simp; omega) | assumption) <| .e (by rfl) rfl <| .a (by rw [srch_new (by omega) hnew]; rfl) (by rw [srch_new (by omega) hnew, List.length_append]; rfl) <| .k rfl <| .k rfl <| .nil) rfl)
          · intro h14
            replace h14 := Int.not_lt.1 (of_decide_eq_false h14)
            refine Tr.exit ?_
            refine Exs.thn ?_
            refine Exs.thn ?_
            refine Exs.here ?_
            exact End.cut ((j, at1, l1)) (by (obtain rfl : j = 2 := by omega); exact ⟨rfl, hp1⟩) (Ent.mk (.o rfl (by first | rfl | omega | (simp; done) | (simp; omega) | assumption) rfl <| .i rfl (by first | rfl | omega | (simp; done) | (simp; omega) | assumption) <| .k rfl rfl <| .k rfl rfl <| .k rfl rfl <| .k rfl rfl <| .k rfl rfl <| .k rfl rfl <| .k rfl rfl <| .k rfl rfl <| .nil) (.a (by first | rfl | omega | (simp; done) | (simp; omega) | assumption) (by first | rfl | omega | (simp; done) | (simp; omega) | assumption) <| .a (by first | rfl | omega | (simp; done) | (simp; omega) | assumption) (by first | rfl | omega | (simp; done) | (simp; omega) | assumption) <| .e (by rfl) rfl <| .a (by first | rfl | omega | (simp; done) | (simp; omega) | assumption) (by first | rfl | omega | (simp; done) | (simp; omega) | assumption) <| .k rfl <| .k rfl <| .nil) rfl)
        · rintro ⟨j, at1, l1⟩ ⟨hj2, hp1⟩
          refine End.norm (S' := [⟨8, true, _, _⟩, ⟨53, true, _, _⟩, ⟨1, true, _, _⟩, ⟨2, true, _, _⟩, ⟨6, true, _, _⟩, ⟨7, true, _, _⟩, ⟨9, true, _, _⟩, ⟨10, true, _, _⟩, ⟨11, true, _, _⟩, ⟨52, true, _, _⟩]) (M' := [⟨26, _, _⟩, ⟨28, _, _⟩, ⟨9, _, _⟩, ⟨31, _, _⟩, ⟨1, _, _⟩, ⟨2, _, _⟩]) rfl rfl ?_
          subst hj2
          refine End.blk ?_
          refine End.nxt ?_
          refine Tr.rg ?_
          refine TrL.op (ok_move rfl (fun _ => rfl)) rfl rfl ?_
          refine TrL.op (ok_add rfl (fun _ => rfl) rfl (fun _ => rfl) (fun _ => by omega)) rfl rfl ?_
          refine TrL.op (ok_assign rfl (fun _ => rfl)) rfl rfl ?_
          refine TrL.fin ?_
          exact End.lp ((k + 1, at1, l1)) ⟨by omega, by rw [← srch_two hlt]; exact hp1.two⟩ (show o.1.length - (k + 1) < o.1.length - k by omega) (Ent.mk (.o rfl (by rw [srch_two hlt]) rfl <| .i rfl (by first | rfl | omega | (simp; done) | (simp; omega) | assumption) <| .k rfl rfl <| .k rfl rfl <| .k rfl rfl <| .k rfl rfl <| .k rfl rfl <| .nil) (.a (by first | rfl | omega | (simp; done) | (simp; omega) | assumption) (by first | rfl | omega | (simp; done) | (simp; omega) | assumption) <| .a (by rw [srch_two hlt]) (by first | rfl | omega | (simp; done) | (simp; omega) | assumption) <| .e (by rfl) rfl <| .a (by rw [srch_two hlt]) (by rw [srch_two hlt]) <| .k rfl <| .k rfl <| .nil) rfl)
      · intro h10
        replace h10 := Int.not_lt.1 (of_decide_eq_false h10)
        refine Tr.exit ?_
        refine Exs.thn ?_
        refine Exs.thn ?_
        refine Exs.here ?_
        exact End.cut ((k, at0, l0)) (hpb.fin v cn (bfs_of v hg0 (by omega)) (by omega)) (Ent.mk (.o rfl (by first | rfl | omega | (simp; done) | (simp; omega) | assumption) rfl <| .i rfl (by first | rfl | omega | (simp; done) | (simp; omega) | assumption) <| .k rfl rfl <| .k rfl rfl <| .k rfl rfl <| .k rfl rfl <| .k rfl rfl <| .nil) (.a (by first | rfl | omega | (simp; done) | (simp; omega) | assumption) (by first | rfl | omega | (simp; done) | (simp; omega) | assumption) <| .a (by first | rfl | omega | (simp; done) | (simp; omega) | assumption) (by first | rfl | omega | (simp; done) | (simp; omega) | assumption) <| .e (by rfl) rfl <| .a (by first | rfl | omega | (simp; done) | (simp; omega) | assumption) (by first | rfl | omega | (simp; done) | (simp; omega) | assumption) <| .k rfl <| .k rfl <| .nil) rfl)
    · rintro ⟨k, at0, l0⟩ hE0
      refine End.norm (S' := [⟨8, true, _, _⟩, ⟨10, true, _, _⟩, ⟨1, true, _, _⟩, ⟨2, true, _, _⟩, ⟨6, true, _, _⟩, ⟨7, true, _, _⟩, ⟨9, true, _, _⟩]) (M' := [⟨26, _, _⟩, ⟨28, _, _⟩, ⟨9, _, _⟩, ⟨31, _, _⟩, ⟨1, _, _⟩, ⟨2, _, _⟩]) rfl rfl ?_
      refine End.nxt ?_
      refine Tr.seq ?_
      refine Tr.rg ?_
      refine TrL.op (ok_ldBS rfl (fun _ => rfl)) rfl rfl ?_
      refine TrL.stB rfl rfl rfl rfl ?_
      refine TrL.op (ok_assign rfl (fun _ => rfl)) rfl rfl ?_
      refine TrL.fin ?_
      refine End.nxt ?_
      refine Tr.ret ?_
      exact Rts.resC (fn := Try.f16) (ts := [3]) rfl rfl rfl (aggRd rfl (by rw [if_pos h2, ← hE0])) (.i rfl h2.symm <| .nil)

end Go.Fl

/- Structs of integers that are equal. No program in sight. -/
namespace Go.Fl
open Go Go.RowKit
/-- A value that is a struct of integers, all of them known. -/
class KInts (k : Know) (xs : outParam (List Int)) : Prop where
  imp : ∀ {g : Gh} {v : Value}, k g v → v = .agg (xs.map (Value.int .i64)).toArray
instance {a b c : Int} : KInts (kAgg [kI a, kI b, kI c]) [a, b, c] := ⟨fun {g v} h => by
  obtain ⟨cs, rfl, h2⟩ := h
  match cs, h2 with
  | [_, _, _], ⟨rfl, rfl, rfl, _⟩ => rfl⟩
section
variable {P : Program} {c : Ctx} {S : Slots} {M : Conts} {p : Bool} {d : Option Tmp} {ty : TypeId} {pos : String} {af : Array Edge} {gd : Option (Nat × Bool)} {x y : Operand} {b b' : Bool}
theorem ok_neqInts {t t' : TypeId} {n : Nat} [ht : TyInts P t n] {k k' : Know} {xs ys : List Int} (hx : opK S x = some (b, k)) (hb : p = true → b = true) (hy : opK S y = some (b', k')) (hb' : p = true → b' = true) [h1 : KInts k xs] [h2 : KInts k' ys] (hl : xs.length = n) (he : p = true → xs = ys) :
    OpOk P c S M ⟨d, .binOp .neq t x y t', ty, pos, af, gd⟩ p (kB false) none :=
  OpOk.pure fun hp a g w _ _ ho => by
    have h3 : a.eval x = _ := h1.imp (ho x (by simp [Op.operands]) b _ hx (hb hp))
    have h4 : a.eval y = _ := h2.imp (ho y (by simp [Op.operands]) b' _ hy (hb' hp))
    rw [← he hp] at h4
    refine ⟨.bool false, ?_, rfl⟩
    simp only [execOp, h3, h4, Sem.run_bind, run_eqGuard_agg w _ _ _ _ _ _ ht.grd, Result.andThen_ok, run_neq_struct, ht.eq xs w hl, Sem.run_pure, Bool.not_true]
end
end Go.Fl

/- Contracts: the law of strata. -/
namespace Go.Fl
open Go Go.Proofs

instance : TyInts Try.prog 41 3 := TyInts.mk' (by kernel_rfl) (by kernel_rfl) (by kernel_rfl) (by kernel_rfl)

instance {l : L3} : KInts (kRd eLat l) [l.1, l.2.1, l.2.2] := ⟨fun {g v} h => by
  obtain ⟨cs, h1, rfl⟩ := h
  obtain ⟨_, _, rfl, rfl, _, _, rfl, rfl, _, _, rfl, rfl, rfl⟩ := h1
  rfl⟩

end Go.Fl

/- Contracts: automorphisms, quotients. -/
namespace Go.Fl
open Go Go.Proofs

instance : NB 121 122 := ⟨rfl⟩

noncomputable def lstTo (o : Ori) (k : Nat) : List Int := fillTo 0 (fun i : Nat => mnO o i) o.1.length k
noncomputable def clsF (o : Ori) (y : Nat) : Int := atL (frs o o.1.length) (mnO o y)

end Go.Fl

/- Contracts: the law of automorphisms. -/
namespace Go.Fl
open Go Go.Proofs

end Go.Fl

/- Renumbered origamis: isomorphisms, labels. Plain Lean, no program in sight. -/
namespace Go.Fl
/-! ### Renumbering by a permutation -/
theorem renTo_at {p f : List Int} {n : Nat} (F : Perm f n) : ∀ {k : Nat}, k ≤ n → ∀ i, i < k → nth (renTo p f k) (nth f i).toNat = nth f (nth p i).toNat
  | 0, _, i, h => absurd h (by omega)
  | k + 1, hk, i, hi => by
    have hfl := F.ln
    have hfi := F.rg i (by omega)
    have hfk := F.rg k (by omega)
    rw [renTo_succ, nth_set (by rw [renTo_len]; omega)]
    by_cases e : i = k
    · subst e; rw [if_pos rfl]
    · rw [if_neg (fun h => e (nodup_nth F.nd (i := i) (j := k) (by omega) (by omega) (by omega)))]
      exact renTo_at F (k := k) (by omega) i (by omega)
theorem ren_ap {p f : List Int} {n : Nat} (F : Perm f n) {x : Int} (hx : Sq n x) : ap (renTo p f f.length) (ap f x) = ap f (ap p x) := by
  have := hx.1; have := hx.2
  rw [F.ln]
  exact renTo_at F (Nat.le_refl n) x.toNat (by omega)
theorem ren_perm {p f : List Int} {n : Nat} (P : Perm p n) (F : Perm f n) : Perm (renTo p f f.length) n := by
  have hl : (renTo p f f.length).length = n := by rw [renTo_len, F.ln]
  have hs : ∀ y, Sq n y → Sq n (ap (renTo p f f.length) y) := fun y hy => by
    obtain ⟨x, hx, rfl⟩ := F.onto hy
    rw [ren_ap F hx]; exact F.aps (P.aps hx)
  refine ⟨nodup_of_nth fun i j hi hj e => ?_, inR_of_ap hl hs, hl⟩
  rw [hl] at hi hj
  obtain ⟨x, hx, ex⟩ := F.onto (Sq.nat hi)
  obtain ⟨y, hy, ey⟩ := F.onto (Sq.nat hj)
  have e2 : ap (renTo p f f.length) (ap f x) = ap (renTo p f f.length) (ap f y) := by rw [ex, ey]; unfold ap; simpa using e
  rw [ren_ap F hx, ren_ap F hy] at e2
  have := P.inj hx hy (F.inj (P.aps hx) (P.aps hy) e2)
  subst this
  rw [ex] at ey
  omega
theorem ren_len {o : Ori} {f : List Int} : (renL o f).1.length = f.length := renTo_len
theorem ren_valid {o : Ori} (v : Valid o) {f : List Int} (F : Perm f o.1.length) : Valid (renL o f) := by
  have h1 := ren_perm v.pR F
  have h2 := ren_perm v.pU F
  have l1 : (renL o f).1.length = o.1.length := h1.ln
  have l2 : (renL o f).2.length = o.1.length := h2.ln
  exact ⟨by rw [l1, l2], by rw [l1]; exact v.pos, by rw [l1]; exact v.le, by rw [l1]; exact h1.rg, by rw [l1]; exact h2.rg, h1.nd, h2.nd⟩
/-- An isomorphism. -/
structure IsIso (a b : Ori) (f : List Int) : Prop where
  hom : IsHom a b f
  perm : Perm f a.1.length
  eq : b.1.length = a.1.length
theorem ren_iso {o : Ori} {f : List Int} (F : Perm f o.1.length) : IsIso o (renL o f) f := by
  have hl : (renL o f).1.length = o.1.length := by rw [ren_len, F.ln]
  exact ⟨⟨F.ln, by rw [hl]; exact F.rg, fun x hx => (ren_ap F hx).symm, fun x hx => (ren_ap F hx).symm⟩, F, hl⟩
theorem IsIso.of_hom {a b : Ori} (va : Valid a) (vb : Valid b) (cb : Conn b) (e : b.1.length = a.1.length) {f : List Int} (h : IsHom a b f) : IsIso a b f := by
  refine ⟨h, ?_, e⟩
  obtain ⟨g, P, h1, h2⟩ := onto_sec h.len fun y hy => hom_onto va vb cb h (by rw [e]; exact hy)
  refine ⟨nodup_of_nth fun i j hi hj e2 => ?_, by rw [← e]; exact h.rng, h.len⟩
  rw [h.len] at hi hj
  have e3 := h2 i (Sq.nat hi)
  have e4 := h2 j (Sq.nat hj)
  have e5 : ap f (i : Int) = ap f (j : Int) := by unfold ap; simpa using e2
  rw [e5, e4] at e3
  omega
theorem IsIso.inv {a b : Ori} {f : List Int} (h : IsIso a b f) (va : Valid a) : IsIso b a (invL f) := by
  have Q := h.perm.inv
  have ho : ∀ {y}, Sq b.1.length y → ∃ x, Sq a.1.length x ∧ ap f x = y := fun hy => h.perm.onto (by rw [← h.eq]; exact hy)
  refine ⟨⟨by rw [Q.ln, h.eq], Q.rg, fun y hy => ?_, fun y hy => ?_⟩, by rw [h.eq]; exact Q, h.eq.symm⟩
  · obtain ⟨x, hx, rfl⟩ := ho hy
    rw [← h.hom.R x hx, h.perm.inv_ap (va.pR.aps hx), h.perm.inv_ap hx]
  · obtain ⟨x, hx, rfl⟩ := ho hy
    rw [← h.hom.U x hx, h.perm.inv_ap (va.pU.aps hx), h.perm.inv_ap hx]
theorem IsIso.conn {a b : Ori} {f : List Int} (h : IsIso a b f) (va : Valid a) (ca : Conn a) (vb : Valid b) : Conn b := by
  have hall : ∀ s, Sq b.1.length s → ∀ x, Sq b.1.length x → x ∈ reach b s := fun s hs x hx => by
    have hi := h.inv va
    have hs' := hi.hom.sq hs
    have key := reach_min (o := a) (G := fun z => ap f z ∈ reach b s) va hs' (fun z hz hm => by
      have := reach_closed vb hs hm
      exact ⟨by show ap f _ ∈ _; rw [h.hom.R z hz]; exact this.1, by show ap f _ ∈ _; rw [h.hom.U z hz]; exact this.2⟩) (by
        show ap f (ap (invL f) s) ∈ reach b s
        rw [h.perm.ap_inv (by rw [← h.eq]; exact hs)]; exact reach_self) _ (ca.all va hs' (hi.hom.sq hx))
    rw [h.perm.ap_inv (by rw [← h.eq]; exact hx)] at key
    exact key
  have hp := vb.pos
  have h1 : comps b 1 = [compL b (0 : Nat)] := by rw [comps_new (by simp [comps])]; rfl
  have hk : ∀ k, 0 < k → k ≤ b.1.length → comps b k = comps b 1 := by
    intro k
    induction k with
    | zero => intro h; omega
    | succ k ih =>
      intro _ hk
      by_cases e : k = 0
      · subst e; rfl
      · rw [comps_in, ih (by omega) (by omega)]
        exact (comps_mem vb (by omega)).2 ⟨0, by omega, hall _ (Sq.nat (by omega)) _ (Sq.nat (by omega))⟩
  unfold Conn
  rw [hk _ hp (Nat.le_refl _), h1]
  exact Nat.le_refl _
/-! ### Numberings go with isomorphisms -/
theorem addN_map {n : Nat} {f : List Int} (F : Perm f n) {l : List Int} {y : Int} (hl : ∀ x ∈ l, Sq n x) (hy : Sq n y) : addN [] (l.map (ap f)) (ap f y) = (addN [] l y).map (ap f) := by
  have hm : ap f y ∈ [] ++ l.map (ap f) ↔ y ∈ [] ++ l := by
    simp only [List.nil_append, List.mem_map]
    constructor
    · rintro ⟨x, hx, e⟩; rw [← F.inj (hl x hx) hy e]; exact hx
    · intro h; exact ⟨y, h, rfl⟩
  by_cases h : y ∈ [] ++ l
  · rw [addN_in h, addN_in (hm.2 h)]
  · rw [addN_new h, addN_new (fun k => h (hm.1 k)), List.map_append]; rfl
theorem addL_map {n : Nat} {f : List Int} (F : Perm f n) : ∀ {ys l : List Int}, (∀ x ∈ l, Sq n x) → (∀ y ∈ ys, Sq n y) → addL [] (l.map (ap f)) (ys.map (ap f)) = (addL [] l ys).map (ap f)
  | [], _, _, _ => rfl
  | y :: ys, l, hl, hy => by
    have h0 := hy y List.mem_cons_self
    show addL [] (addN [] (l.map (ap f)) (ap f y)) (ys.map (ap f)) = (addL [] (addN [] l y) ys).map (ap f)
    rw [addN_map F hl h0, addL_map F (fun x hx => ?_) (fun z hz => hy z (List.mem_cons_of_mem _ hz))]
    rcases addN_mem hx with h | rfl
    · exact hl x h
    · exact h0
theorem nth_mapI {f : Int → Int} {l : List Int} {i : Nat} (h : i < l.length) : nth (l.map f) i = f (nth l i) := nth_map h
theorem bfs_map {a b : Ori} {f : List Int} (h : IsIso a b f) (va : Valid a) {s : Int} (hs : Sq a.1.length s) : ∀ k, bfsTo b [] (ap f s) k = (bfsTo a [] s k).map (ap f)
  | 0 => rfl
  | k + 1 => by
    have ih := bfs_map h va hs k
    have hg := bfsTo_good va (good1 hs) k
    rw [bfsTo, bfsTo, ih, List.length_map]
    split
    · rename_i hk
      have hx := hg.rng _ (List.mem_append_right _ (nth_mem hk))
      rw [nth_mapI hk]
      have e : stp b (ap f (nth (bfsTo a [] s k) k)) = (stp a (nth (bfsTo a [] s k) k)).map (ap f) := by
        unfold stp
        rw [List.map_cons, List.map_cons, h.hom.R _ hx, h.hom.U _ hx]; rfl
      rw [e]
      exact addL_map h.perm (fun x hx => hg.rng x (List.mem_append_right _ hx)) (stp_sq va hx)
    · rfl
theorem atL_map {n : Nat} {f : List Int} (F : Perm f n) : ∀ {l : List Int} {x : Int}, (∀ y ∈ l, Sq n y) → Sq n x → atL (l.map (ap f)) (ap f x) = atL l x := fun {l x} hl hx => by
  have hm : ap f x ∈ l.map (ap f) ↔ x ∈ l := by
    rw [List.mem_map]
    constructor
    · rintro ⟨y, hy, e⟩; rw [← F.inj (hl y hy) hx e]; exact hy
    · intro h; exact ⟨x, h, rfl⟩
  unfold atL
  by_cases h : x ∈ l
  · rw [if_pos h, if_pos (hm.2 h)]
    congr 1
    have key : ∀ l : List Int, (∀ y ∈ l, Sq n y) → List.idxOf (ap f x) (l.map (ap f)) = List.idxOf x l := by
      intro l
      induction l with
      | nil => intro _; rfl
      | cons y l ih =>
        intro hl
        rw [List.map_cons, List.idxOf_cons, List.idxOf_cons, ih fun z hz => hl z (List.mem_cons_of_mem _ hz)]
        have e : (ap f y == ap f x) = (y == x) := by
          rw [Bool.eq_iff_iff, beq_iff_eq, beq_iff_eq]
          exact ⟨fun e => F.inj (hl y List.mem_cons_self) hx e, fun e => by rw [e]⟩
        rw [e]
    exact key l hl
  · rw [if_neg h, if_neg (fun k => h (hm.1 k))]
theorem num_iso {a b : Ori} {f : List Int} (h : IsIso a b f) (va : Valid a) {s x : Int} (hs : Sq a.1.length s) (hx : Sq a.1.length x) : ap (numL b (ap f s)) (ap f x) = ap (numL a s) x := by
  have hfx := h.hom.sq hx
  unfold ap numL
  have e : reach b (ap f s) = (reach a s).map (ap f) := by unfold reach bfs; rw [h.eq]; exact bfs_map h va hs _
  have h1 := nth_numN (n := b.1.length) (l := reach b (ap f s)) hfx
  have h2 := nth_numN (n := a.1.length) (l := reach a s) hx
  unfold ap at h1
  rw [h1, h2]
  rw [show nth f x.toNat = ap f x from rfl, show reach b (nth f s.toNat) = reach b (ap f s) from rfl, e]
  exact atL_map h.perm (fun y hy => reach_sq va hs hy) hx
theorem numL_perm {o : Ori} (v : Valid o) (c : Conn o) {s : Int} (hs : Sq o.1.length s) : Perm (numL o s) o.1.length := by
  have hg := reach_good v hs
  have hl := c.len v hs
  have P : Perm (reach o s) o.1.length := ⟨hg.nodup, fun i hi => hg.rng _ (nth_mem hi), hl⟩
  rw [← invA_reach v c hs, invA_eq P.nd P.rg P.ln]
  exact P.inv
theorem ren_uniq {n : Nat} {q q' g : List Int} (hl : q.length = n) (hl' : q'.length = n) (G : Perm g n) (h : ∀ x, Sq n x → ap q (ap g x) = ap q' (ap g x)) : q = q' := by
  refine ext_nth (hl.trans hl'.symm) fun i hi => ?_
  obtain ⟨x, hx, e⟩ := G.onto (Sq.nat (by rw [← hl]; exact hi))
  have := h x hx
  rw [e] at this
  simpa [ap] using this
theorem cand_iso {a b : Ori} {f : List Int} (h : IsIso a b f) (va : Valid a) (ca : Conn a) (vb : Valid b) (cb : Conn b) {s t : Nat} (hs : s < a.1.length) (e : ap f s = t) : candO b t = candO a s := by
  have hs' : Sq a.1.length (s : Int) := Sq.nat hs
  have ht : Sq b.1.length (t : Int) := by rw [← e]; exact h.hom.sq hs'
  have G := numL_perm va ca hs'
  have G' := numL_perm vb cb ht
  have hn := fun {x} (hx : Sq a.1.length x) => num_iso h va hs' hx
  rw [e] at hn
  have key : ∀ {p q : List Int}, Perm p a.1.length → Perm q b.1.length → (∀ x, Sq a.1.length x → ap f (ap p x) = ap q (ap f x)) → renTo q (numL b t) (numL b t).length = renTo p (numL a s) (numL a s).length := fun {p q} P Q hpq => by
    refine ren_uniq (n := a.1.length) (g := numL a s) (by rw [renTo_len, G'.ln, h.eq]) (by rw [renTo_len, G.ln]) G fun x hx => ?_
    rw [ren_ap G hx]
    rw [← hn hx, ren_ap G' (h.hom.sq hx), ← hpq x hx, hn (P.aps hx)]
  unfold candO renL
  rw [key va.pR vb.pR h.hom.R, key va.pU vb.pU h.hom.U]
/-! ### The least candidate -/
theorem cmpI_neg : ∀ (a b : List Int), cmpI b a = -cmpI a b
  | [], [] => rfl
  | [], _ :: _ => rfl
  | _ :: _, [] => rfl
  | x :: a, y :: b => by
    rw [cmpI, cmpI]
    by_cases h1 : x < y
    · rw [if_pos h1, if_neg (by omega), if_pos h1]; rfl
    · rw [if_neg h1]
      by_cases h2 : y < x
      · rw [if_pos h2, if_neg h1, if_pos h2]
      · rw [if_neg h2, if_neg h1, if_neg h2]; exact cmpI_neg a b
theorem cmpI_trans : ∀ {a b c : List Int}, cmpI a b < 0 → cmpI b c < 0 → cmpI a c < 0
  | [], [], _, h, _ => by simp [cmpI] at h
  | [], _ :: _, [], _, h => by simp [cmpI] at h
  | [], _ :: _, _ :: _, _, _ => by simp [cmpI]
  | _ :: _, [], _, h, _ => by simp [cmpI] at h
  | _ :: _, _ :: _, [], _, h => by simp [cmpI] at h
  | x :: a, y :: b, z :: c, h, k => by
    rw [cmpI] at h k ⊢
    by_cases h1 : x < y
    · by_cases k1 : y < z
      · rw [if_pos (by omega)]; omega
      · rw [if_neg k1] at k
        by_cases k2 : z < y
        · rw [if_pos k2] at k; omega
        · rw [if_pos (by omega)]; omega
    · rw [if_neg h1] at h
      by_cases h2 : y < x
      · rw [if_pos h2] at h; omega
      · rw [if_neg h2] at h
        by_cases k1 : y < z
        · rw [if_pos (by omega)]; omega
        · rw [if_neg k1] at k
          by_cases k2 : z < y
          · rw [if_pos k2] at k; omega
          · rw [if_neg k2] at k
            rw [if_neg (by omega), if_neg (by omega)]; exact cmpI_trans h k
theorem cmpO_trans {a b c : Ori} (h : cmpO a b < 0) (k : cmpO b c < 0) : cmpO a c < 0 := by
  unfold cmpO at *
  by_cases e1 : cmpI a.1 b.1 = 0
  · have e1' := cmpI_zero e1
    rw [if_neg (by simpa using e1)] at h
    rw [e1']
    by_cases e2 : cmpI b.1 c.1 = 0
    · rw [if_neg (by simpa using e2)] at k ⊢
      exact cmpI_trans h k
    · rw [if_pos e2] at k ⊢; exact k
  · rw [if_pos e1] at h
    by_cases e2 : cmpI b.1 c.1 = 0
    · rw [← cmpI_zero e2, if_pos e1]; exact h
    · rw [if_pos e2] at k
      have := cmpI_trans h k
      rw [if_pos (by omega)]; exact this
theorem cmpO_neg (a b : Ori) : cmpO b a = -cmpO a b := by
  unfold cmpO
  by_cases e : cmpI a.1 b.1 = 0
  · have h := cmpI_neg a.1 b.1
    rw [if_neg (by rw [h, e]; simp), if_neg (by rw [e]; simp)]; exact cmpI_neg _ _
  · have h := cmpI_neg a.1 b.1
    rw [if_pos (by rw [h]; omega), if_pos e]; exact h
theorem cmpO_zero {a b : Ori} (h : cmpO a b = 0) : a = b := by
  unfold cmpO at h
  split at h
  · rename_i hn; exact absurd h hn
  · rename_i hn
    exact Prod.ext (cmpI_zero (Classical.not_not.1 hn)) (cmpI_zero h)
theorem lbl_least {o : Ori} : ∀ {k : Nat}, ∀ s, s < k → ¬ cmpO (candO o s) (candO o (lblS o k)) < 0
  | 0, s, h => absurd h (by omega)
  | k + 1, s, h => by
    by_cases e : cmpO (candO o k) (candO o (lblS o k)) < 0
    · rw [lblS_pos e]
      by_cases es : s = k
      · subst es; rw [cmpO_self]; omega
      · exact fun hh => lbl_least (k := k) s (by omega) (cmpO_trans hh e)
    · rw [lblS_neg e]
      by_cases es : s = k
      · subst es; exact e
      · exact lbl_least (k := k) s (by omega)
theorem lbl_le {a b : Ori} {f : List Int} (h : IsIso a b f) (va : Valid a) (ca : Conn a) (vb : Valid b) (cb : Conn b) : ¬ cmpO (lblO a) (lblO b) < 0 := by
  have hs : lblS a a.1.length < a.1.length := lblS_lt va.pos
  obtain ⟨h1, h2⟩ := h.hom.sq (Sq.nat hs)
  have e := cand_iso h va ca vb cb (t := (ap f (lblS a a.1.length)).toNat) hs (by omega)
  have := lbl_least (o := b) (k := b.1.length) (ap f (lblS a a.1.length)).toNat (by omega)
  rw [e] at this
  exact this
/-- Isomorphic origamis have the same label. -/
theorem lbl_iso {a b : Ori} {f : List Int} (h : IsIso a b f) (va : Valid a) (ca : Conn a) (vb : Valid b) (cb : Conn b) : lblO a = lblO b := by
  have h1 := lbl_le h va ca vb cb
  have h2 := lbl_le (h.inv va) vb cb va ca
  have h3 := cmpO_neg (lblO a) (lblO b)
  exact cmpO_zero (by omega)
theorem lbl_self {o : Ori} (v : Valid o) (c : Conn o) : IsIso o (lblO o) (lblF o) ∧ Valid (lblO o) := by
  have hs : lblS o o.1.length < o.1.length := lblS_lt v.pos
  have G := numL_perm v c (Sq.nat hs)
  exact ⟨ren_iso G, ren_valid v G⟩
theorem IsIso.comp {a b c : Ori} {f g : List Int} (va : Valid a) (h : IsIso a b f) (k : IsIso b c g) : IsIso a c (thenL f g) :=
  ⟨hom_comp va h.hom k.hom, h.perm.then (by rw [← h.eq]; exact k.perm), k.eq.trans h.eq⟩
/-- Origamis with the same label are isomorphic. -/
theorem lbl_same {a b : Ori} (va : Valid a) (ca : Conn a) (vb : Valid b) (cb : Conn b) (e : lblO a = lblO b) : ∃ f, IsIso a b f := by
  obtain ⟨h1, _⟩ := lbl_self va ca
  obtain ⟨h2, _⟩ := lbl_self vb cb
  rw [e] at h1
  exact ⟨_, IsIso.comp va h1 (h2.inv vb)⟩
theorem iso_cm {a b : Ori} {f : List Int} (h : IsIso a b f) (va : Valid a) (vb : Valid b) : cmE a b f true = 0 := by
  refine cmE_0 (chkO_of va) (chkO_of vb) ?_ h.hom.rng ((isMapB_iff h.hom.len h.hom.rng).2 h.hom) (ontoB_all fun y hy => ?_)
  · rintro (k | k)
    · exact k h.hom.len
    · exact k.2 h.eq.symm
  · obtain ⟨x, hx, e⟩ := h.perm.onto (Sq.nat (by rw [← h.eq]; exact hy))
    rw [← e]
    exact nth_mem (by rw [h.hom.len]; have := hx.1; have := hx.2; omega)
/-! ### What stays the same -/
theorem comm_iso {a b : Ori} {f : List Int} (h : IsIso a b f) (va : Valid a) (vb : Valid b) {x : Int} (hx : Sq a.1.length x) : ap (comm b) (ap f x) = ap f (ap (comm a) x) := by
  have i1 := va.pR.inv.aps hx
  have i2 := va.pU.inv.aps i1
  have i3 := va.pR.aps i2
  have key : ∀ {p q : List Int}, Perm p a.1.length → Perm q b.1.length → (∀ x, Sq a.1.length x → ap f (ap p x) = ap q (ap f x)) → ∀ x, Sq a.1.length x → ap f (ap (invL p) x) = ap (invL q) (ap f x) := fun {p q} P Q hpq x hx => by
    have hq := hpq _ (P.inv.aps hx)
    rw [P.ap_inv hx] at hq
    rw [hq, Q.inv_ap (h.hom.sq (P.inv.aps hx))]
  have hb := h.hom.sq hx
  have e1 : ap (comm b) (ap f x) = ap b.2 (ap b.1 (ap (invL b.2) (ap (invL b.1) (ap f x)))) := comm_at hb.1 hb.2
  have e2 : ap (comm a) x = ap a.2 (ap a.1 (ap (invL a.2) (ap (invL a.1) x))) := comm_at hx.1 hx.2
  rw [e1, e2, ← key va.pR vb.pR h.hom.R x hx, ← key va.pU vb.pU h.hom.U _ i1, ← h.hom.R _ i2, ← h.hom.U _ i3]
theorem strat_iso {a b : Ori} {f : List Int} (h : IsIso a b f) (va : Valid a) (vb : Valid b) : stratL b = stratL a := strat_conj va vb h.eq h.perm fun _ hx => comm_iso h va vb hx
theorem vtx_iso {a b : Ori} {f : List Int} (h : IsIso a b f) (va : Valid a) (vb : Valid b) : (vtx b).length = (vtx a).length := by
  have Q := vb.pC
  rw [h.eq] at Q
  have := (conj_ord va.pos va.pC Q h.perm fun _ hx => comm_iso h va vb hx).length_eq
  unfold ordOf at this
  rw [List.length_map, List.length_map] at this
  unfold vtx
  rw [h.eq]; exact this
end Go.Fl

/- Periods of isomorphic origamis; lists shuffled by a choice. Plain Lean, no program in sight. -/
namespace Go.Fl
/-! ### There are potentials -/
section
variable {o : Ori} {k j : Nat} {at' : List (Int × Int × Unit)} {l : L3} {L : List Int}
theorem PB.idle (h : PB o k 0 at' l L) (hk : L.length ≤ k) : PB o (k + 1) 0 at' l L := by
  have e : ∀ i e, i < L.length → (Lkd (k + 1) 0 i e ↔ Lkd k 0 i e) := fun i e hi => by unfold Lkd; omega
  refine ⟨h.len, h.gd, h.ps, h.nf, h.bd, fun i e' hi hl => h.cl i e' ((e _ _ hl).1 hi) hl, fun u => (h.sp u).trans ?_⟩
  constructor <;> refine Sp.mono fun d ⟨i, e', h3, h4, h5⟩ => Sp.gen ⟨i, e', ?_, h4, h5⟩
  · exact (e _ _ h4).2 h3
  · exact (e _ _ h4).1 h3
theorem PB.step (v : Valid o) (hg0 : Good o.1.length ([] ++ [(0 : Int)])) (hlt : k < (bfsTo o [] 0 k).length) (hj : j < 2) (h : PB o k j at' l (srch o [] 0 k j)) : ∃ at2 l2, PB o k (j + 1) at2 l2 (srch o [] 0 k (j + 1)) := by
  have hxe := srch_at (o := o) (F := []) (s := 0) (j := j) hlt
  have hy := srch_y v hg0 hlt hj
  have e : edg o (nth (srch o [] 0 k j) k) j = nth (stp o (nth (bfsTo o [] 0 k) k)) j := by rw [hxe.1, edg_stp hj]
  by_cases hm : nth (stp o (nth (bfsTo o [] 0 k) k)) j ∈ srch o [] 0 k j
  · rw [srch_in hj hm]
    exact ⟨_, _, h.old v hxe.2 hj (by rw [e]; exact hm)⟩
  · rw [srch_new hj hm, ← e]
    exact ⟨_, _, h.new hxe.2 hj (by rw [e]; exact hy) (by rw [e]; exact hm) (a := (uni (pAt at' (nth (srch o [] 0 k j) k)) j).1) (b := (uni (pAt at' (nth (srch o [] 0 k j) k)) j).2) rfl⟩
theorem PB.ex (v : Valid o) (hg0 : Good o.1.length ([] ++ [(0 : Int)])) : ∀ k, ∃ at' l, PB o k 0 at' l (bfsTo o [] 0 k)
  | 0 => ⟨_, _, PB.start v⟩
  | k + 1 => by
    obtain ⟨a0, l0, h0⟩ := PB.ex v hg0 k
    by_cases hlt : k < (bfsTo o [] 0 k).length
    · obtain ⟨a1, l1, h1⟩ := PB.step (j := 0) v hg0 hlt (by omega) h0
      obtain ⟨a2, l2, h2⟩ := PB.step (j := 1) v hg0 hlt (by omega) h1
      rw [← srch_two hlt]
      exact ⟨a2, l2, h2.two⟩
    · rw [bfsTo, if_neg hlt]
      exact ⟨a0, l0, h0.idle (by omega)⟩
theorem pot_ex (v : Valid o) (cn : Conn o) : ∃ p, PotT o p := by
  have hn := v.pos
  have h0 : Sq o.1.length 0 := ⟨by omega, by omega⟩
  obtain ⟨a, l, h⟩ := PB.ex v (good1 h0) o.1.length
  exact ⟨_, h.ps.pot fun x hx => cn.all v h0 hx⟩
theorem per_spec (v : Valid o) {p : Int → V2} (hp : PotT o p) : NF (perL o) ∧ ∀ u, InL (perL o) u ↔ Sp (Df o p) u := by
  obtain ⟨h1, h2⟩ := latL_spec (vecs o p o.1.length)
  rw [latL_per v hp] at h1 h2
  exact ⟨h1, fun u => (h2 u).trans ⟨Sp.mono fun d hd => Sp.gen (vecs_mem.1 hd), Sp.mono fun d hd => Sp.gen (vecs_mem.2 hd)⟩⟩
end
section
variable {a b : Ori} {f : List Int}
theorem pot_diff (h : IsIso a b f) (va : Valid a) {p q : Int → V2} {y : Int} (ht : TreeP b q y) : ∀ {x x0 : Int}, Sq a.1.length x → Sq a.1.length x0 → ap f x = y → ap f x0 = 0 →
    Sp (Df a p) ((q y).1 - (p x).1 - ((q 0).1 - (p x0).1), (q y).2 - (p x).2 - ((q 0).2 - (p x0).2)) := by
  induction ht with
  | base =>
    intro x x0 hx hx0 e e0
    have := h.perm.inj hx hx0 (e.trans e0.symm)
    subst this
    have := Sp.zero (D := Df a p)
    rw [show (q 0).1 - (p x).1 - ((q 0).1 - (p x).1) = 0 by omega, show (q 0).2 - (p x).2 - ((q 0).2 - (p x).2) = 0 by omega]
    exact this
  | @r z hz _ e1 ih =>
    intro x x0 hx hx0 e e0
    obtain ⟨w, hw, rfl⟩ := h.perm.onto (by rw [← h.eq]; exact hz)
    have hx' : ap a.1 w = x := h.perm.inj (va.pR.aps hw) hx (by rw [h.hom.R w hw, e])
    subst hx'
    have := Sp.sum (ih hw hx0 rfl e0) (Sp.gen (D := Df a p) ⟨w, hw, .inl rfl⟩)
    simp only [dfR] at this
    rw [e1]
    rw [show (q (ap f w)).1 + 1 - (p (ap a.1 w)).1 - ((q 0).1 - (p x0).1) = (q (ap f w)).1 - (p w).1 - ((q 0).1 - (p x0).1) + ((p w).1 + 1 - (p (ap a.1 w)).1) by omega,
      show (q (ap f w)).2 - (p (ap a.1 w)).2 - ((q 0).2 - (p x0).2) = (q (ap f w)).2 - (p w).2 - ((q 0).2 - (p x0).2) + ((p w).2 - (p (ap a.1 w)).2) by omega]
    exact this
  | @u z hz _ e1 ih =>
    intro x x0 hx hx0 e e0
    obtain ⟨w, hw, rfl⟩ := h.perm.onto (by rw [← h.eq]; exact hz)
    have hx' : ap a.2 w = x := h.perm.inj (va.pU.aps hw) hx (by rw [h.hom.U w hw, e])
    subst hx'
    have := Sp.sum (ih hw hx0 rfl e0) (Sp.gen (D := Df a p) ⟨w, hw, .inr rfl⟩)
    simp only [dfU] at this
    rw [e1]
    rw [show (q (ap f w)).1 - (p (ap a.2 w)).1 - ((q 0).1 - (p x0).1) = (q (ap f w)).1 - (p w).1 - ((q 0).1 - (p x0).1) + ((p w).1 - (p (ap a.2 w)).1) by omega,
      show (q (ap f w)).2 + 1 - (p (ap a.2 w)).2 - ((q 0).2 - (p x0).2) = (q (ap f w)).2 - (p w).2 - ((q 0).2 - (p x0).2) + ((p w).2 + 1 - (p (ap a.2 w)).2) by omega]
    exact this
theorem df_iso (h : IsIso a b f) (va : Valid a) (vb : Valid b) {p q : Int → V2} (hq : PotT b q) {d : V2} (hd : Df b q d) : Sp (Df a p) d := by
  have hn := vb.pos
  have hb0 : Sq b.1.length 0 := ⟨by omega, by omega⟩
  obtain ⟨x0, hx0, e0⟩ := h.perm.onto (by rw [← h.eq]; exact hb0)
  obtain ⟨y, hy, hd⟩ := hd
  obtain ⟨x, hx, rfl⟩ := h.perm.onto (by rw [← h.eq]; exact hy)
  have h1 := pot_diff h va (p := p) (hq.tree _ hy) hx hx0 rfl e0
  rcases hd with rfl | rfl
  · have h2 := (pot_diff h va (p := p) (hq.tree _ (vb.pR.aps hy)) (va.pR.aps hx) hx0 (h.hom.R x hx) e0).smul (-1)
    have h3 := Sp.sum (Sp.sum h1 h2) (Sp.gen (D := Df a p) ⟨x, hx, .inl rfl⟩)
    simp only [dfR] at h3 ⊢
    generalize q (ap f x) = A at *; generalize q (ap b.1 (ap f x)) = B at *; generalize p x = C at *; generalize p (ap a.1 x) = D at *; generalize q 0 = E at *; generalize p x0 = F at *
    rw [show A.1 + 1 - B.1 = A.1 - C.1 - (E.1 - F.1) + -1 * (B.1 - D.1 - (E.1 - F.1)) + (C.1 + 1 - D.1) by omega, show A.2 - B.2 = A.2 - C.2 - (E.2 - F.2) + -1 * (B.2 - D.2 - (E.2 - F.2)) + (C.2 - D.2) by omega]
    exact h3
  · have h2 := (pot_diff h va (p := p) (hq.tree _ (vb.pU.aps hy)) (va.pU.aps hx) hx0 (h.hom.U x hx) e0).smul (-1)
    have h3 := Sp.sum (Sp.sum h1 h2) (Sp.gen (D := Df a p) ⟨x, hx, .inr rfl⟩)
    simp only [dfU] at h3 ⊢
    generalize q (ap f x) = A at *; generalize q (ap b.2 (ap f x)) = B at *; generalize p x = C at *; generalize p (ap a.2 x) = D at *; generalize q 0 = E at *; generalize p x0 = F at *
    rw [show A.1 - B.1 = A.1 - C.1 - (E.1 - F.1) + -1 * (B.1 - D.1 - (E.1 - F.1)) + (C.1 - D.1) by omega, show A.2 + 1 - B.2 = A.2 - C.2 - (E.2 - F.2) + -1 * (B.2 - D.2 - (E.2 - F.2)) + (C.2 + 1 - D.2) by omega]
    exact h3
theorem per_iso (h : IsIso a b f) (va : Valid a) (ca : Conn a) (vb : Valid b) (cb : Conn b) : perL b = perL a := by
  obtain ⟨p, hp⟩ := pot_ex va ca
  obtain ⟨q, hq⟩ := pot_ex vb cb
  obtain ⟨h1, h2⟩ := per_spec vb hq
  exact perL_eq va hp h1 fun u => (h2 u).trans ⟨Sp.mono fun d hd => df_iso h va vb hq hd, Sp.mono fun d hd => df_iso (h.inv va) vb va hp hd⟩
end
/-! ### Lists shuffled by a choice -/
def shufK (ch : List Int) (m i : Nat) : Nat := (if i < ch.length then nth ch i % (m : Int) else 0).toNat
def shufS (ch : List Int) (n : Nat) : Nat → List Int × List Int
  | 0 => (sqs n, [])
  | i + 1 => ((shufS ch n i).1.take (shufK ch (shufS ch n i).1.length i) ++ (shufS ch n i).1.drop (shufK ch (shufS ch n i).1.length i + 1), (shufS ch n i).2 ++ [nth (shufS ch n i).1 (shufK ch (shufS ch n i).1.length i)])
theorem shufK_lt {ch : List Int} {m i : Nat} (h : 0 < m) : shufK ch m i < m := by
  unfold shufK
  split
  · have h1 := Int.emod_nonneg (nth ch i) (show (m : Int) ≠ 0 by omega)
    have h2 := Int.emod_lt_of_pos (nth ch i) (show (0 : Int) < m by omega)
    omega
  · simpa using h
theorem shufS_len {ch : List Int} {n : Nat} : ∀ {i : Nat}, i ≤ n → (shufS ch n i).1.length = n - i ∧ (shufS ch n i).2.length = i
  | 0, _ => ⟨by rw [shufS, sqs_len]; omega, rfl⟩
  | i + 1, h => by
    obtain ⟨h1, h2⟩ := shufS_len (ch := ch) (n := n) (i := i) (by omega)
    have hk := shufK_lt (ch := ch) (i := i) (show 0 < (shufS ch n i).1.length by omega)
    rw [shufS]
    simp only [List.length_append, List.length_take, List.length_drop, List.length_singleton]
    omega
theorem shufS_perm {ch : List Int} {n : Nat} : ∀ {i : Nat}, i ≤ n → ((shufS ch n i).2 ++ (shufS ch n i).1).Perm (sqs n)
  | 0, _ => by rw [shufS, List.nil_append]
  | i + 1, h => by
    have ih := shufS_perm (ch := ch) (n := n) (i := i) (by omega)
    obtain ⟨h1, h2⟩ := shufS_len (ch := ch) (n := n) (i := i) (by omega)
    have hk := shufK_lt (ch := ch) (i := i) (show 0 < (shufS ch n i).1.length by omega)
    rw [shufS]
    refine List.Perm.trans ?_ ih
    simp only
    generalize shufK ch (shufS ch n i).1.length i = k at *
    generalize (shufS ch n i).1 = l at *
    rw [List.append_assoc]
    refine List.Perm.append_left _ ?_
    have e : l = l.take k ++ nth l k :: l.drop (k + 1) := by
      conv => lhs; rw [← List.take_append_drop k l]
      rw [List.drop_eq_getElem_cons hk, nth_of_get? (List.getElem?_eq_getElem hk)]
    conv => rhs; rw [e]
    exact (List.perm_middle (a := nth l k) (l₁ := l.take k) (l₂ := l.drop (k + 1))).symm
def shufL (ch : List Int) (n : Nat) : List Int := (shufS ch n n).2
theorem shufL_perm {ch : List Int} {n : Nat} : Perm (shufL ch n) n := by
  obtain ⟨h1, h2⟩ := shufS_len (ch := ch) (Nat.le_refl n)
  have hp := shufS_perm (ch := ch) (Nat.le_refl n)
  rw [List.eq_nil_of_length_eq_zero (show (shufS ch n n).1.length = 0 by omega), List.append_nil] at hp
  refine ⟨hp.nodup_iff.2 (nodup_of_lt sqs_lt), fun i hi => ?_, h2⟩
  exact mem_sqs.1 (hp.mem_iff.1 (nth_mem (xs := shufL ch n) hi))
end Go.Fl

/- Isomorphisms and labels: what is answered. Plain Lean, no program in sight. -/
namespace Go.Fl
theorem chk1_of {o : Ori} (v : Valid o) (c : Conn o) : chk1 o = 0 := orE_zero.2 ⟨chkO_of v, splE_zero (by unfold Conn at c; omega)⟩
theorem chk2_of {a b : Ori} (va : Valid a) (ca : Conn a) (vb : Valid b) (cb : Conn b) : chk2 a b = 0 := by
  unfold Conn at ca cb
  exact orE_zero.2 ⟨chkO_of va, orE_zero.2 ⟨chkO_of vb, if_neg (by omega)⟩⟩
section
variable {a b : Ori} (va : Valid a) (ca : Conn a) (vb : Valid b) (cb : Conn b)
include va ca vb cb
theorem iso_no (h : lblO a ≠ lblO b) : isoE a b = 11 ∧ isoL a b = [] := by
  have e : isoE a b = 11 := by
    unfold isoE
    rw [orE_r (chk2_of va ca vb cb), if_pos]
    by_cases hl : a.1.length = b.1.length
    · refine .inr (Classical.byContradiction fun hn => h ?_)
      have hm := nth_mem (xs := mapsL a b) (i := 0) (by omega)
      exact lbl_iso (IsIso.of_hom va vb cb hl.symm ((mem_mapsL va ca).1 hm)) va ca vb cb
    · exact .inl hl
  exact ⟨e, by unfold isoL; rw [e]; rfl⟩
theorem iso_yes (h : lblO a = lblO b) : isoE a b = 0 ∧ cmE a b (isoL a b) true = 0 := by
  obtain ⟨f, hf⟩ := lbl_same va ca vb cb h
  have hm := (mem_mapsL va ca).2 hf.hom
  have hn : 0 < (mapsL a b).length := List.length_pos_iff.2 (List.ne_nil_of_mem hm)
  have e : isoE a b = 0 := by
    unfold isoE
    rw [orE_r (chk2_of va ca vb cb), if_neg]
    rintro (k | k)
    · exact k hf.eq.symm
    · omega
  have e2 : isoL a b = nth (mapsL a b) 0 := by unfold isoL; rw [e]; rfl
  rw [e2]
  exact ⟨e, iso_cm (IsIso.of_hom va vb cb hf.eq ((mem_mapsL va ca).1 (nth_mem hn))) va vb⟩
end
theorem shufK_t {ch : List Int} {m i : Nat} (h : i < ch.length) (hm : 0 < m) (h0 : 0 ≤ nth ch i) : (nth ch i).tmod (m : Int) = (shufK ch m i : Int) := by
  unfold shufK
  rw [if_pos h, Int.tmod_eq_emod_of_nonneg h0]
  have := Int.emod_nonneg (nth ch i) (show (m : Int) ≠ 0 by omega)
  omega
theorem shufK_f {ch : List Int} {m i : Nat} (h : ch.length ≤ i) : (0 : Int) = (shufK ch m i : Int) := by
  unfold shufK
  rw [if_neg (by omega)]; rfl
end Go.Fl

/- Parts of rows that are immutable; functions that return a part of their argument; calls that take one of the caller's own rows for good. No program in sight. -/
namespace Go.Fl
open Go Go.RowKit
/-! ### 1. Parts of rows -/
theorem rowAt.take {α : Type} {e : Enc α} {J : JV} {b o n : Nat} {xs : List α} (h : rowAt e J b o xs) : rowAt e J b o (xs.take n) := fun i x hx => by
  rw [List.getElem?_take] at hx
  split at hx
  · exact h i x hx
  · cases hx
theorem rowAt.drop {α : Type} {e : Enc α} {J : JV} {b o n : Nat} {xs : List α} (h : rowAt e J b o xs) : rowAt e J b (o + n * e.n) (xs.drop n) := fun i x hx => by
  rw [List.getElem?_drop] at hx
  obtain ⟨ds, h1, h2⟩ := h _ x hx
  refine ⟨ds, h1, fun j v hj => ?_⟩
  have := h2 j v hj
  rwa [show o + (n + i) * e.n + j = o + n * e.n + i * e.n + j by rw [Nat.add_mul]; omega] at this
section
variable {P : Program} {c : Ctx} {S : Slots} {M : Conts} {p : Bool} {d : Option Tmp} {ty : TypeId} {pos : String} {af : Array Edge} {gd : Option (Nat × Bool)} {x y z : Operand} {b b' b'' : Bool}
/-- 'row[:h]'. -/
theorem ok_slJh {t et : TypeId} [ht : TySl P t et] {sz by' : Nat} {zz : Value} [hz : TySz P et sz by' zz] {α : Type} {e : Enc α} {xs : List α} {ik : IntKind} {i0 : Int} (hx : opK S x = some (b, kRd (eL e) xs)) (hb : p = true → b = true) (hy : opK S y = some (b', kInt ik i0)) (hb' : p = true → b' = true) (h : p = true → 0 ≤ i0 ∧ i0 ≤ xs.length) :
    OpOk P c S M ⟨d, .slice t x none (some y) none, ty, pos, af, gd⟩ p (kRd (eL e) (xs.take i0.toNat)) none :=
  OpOk.pure fun hp a g w _ _ ho => by
    have hi : a.eval y = _ := ho y (by simp [Op.operands]) b' _ hy (hb' hp)
    have hlt0 := h hp
    obtain ⟨i, rfl⟩ : ∃ i : Nat, i0 = i := ⟨i0.toNat, by omega⟩
    rw [Int.toNat_natCast]
    have hlt : i ≤ xs.length := by omega
    obtain ⟨cs, ⟨ad, cap, rfl, ⟨hl1, hl2⟩, hr⟩, h2⟩ := ho x (by simp [Op.operands]) b _ hx (hb hp)
    simp only [eL, Bool.false_eq_true, if_false, List.headD_cons] at h2
    obtain ⟨j, hj, rfl, rfl, _⟩ := hz.h
    have hun : P.underlying t = some (.slice (P.elem t)) := by rw [ht.h]; simp [Program.elem, ht.h]
    have hel : P.elem t = et := by simp [Program.elem, ht.h]
    have hsz : (sizeOf et).run P w = .ok j.size w := by simp [sizeOf, typeInfo, hj]
    refine ⟨sliced ad 0 i cap j.size, ?_, ?_⟩
    · simp only [execOp, h2, hi, Option.map]
      rw [Sem.run_bind, run_sliceAt_slice w t _ _ _ _ hun, run_slice_h w t _ xs.length cap hun ik i (by omega) (by omega), hel]
      simp only [Result.andThen_ok, Sem.run_pure, hsz, Int.toNat_natCast]
    · have hmin : (xs.take i).length = i := by rw [List.length_take]; omega
      rcases hr with rfl | ⟨bl, o, rfl, hrow⟩
      · obtain rfl : i = 0 := by simpa using hlt
        exact ⟨[sliced ad 0 0 cap j.size], ⟨if cap = 0 then ad else ad.map (·.add (0 * j.size)), cap - 0, rfl, ⟨by simp, by simp⟩, .inl (by simp)⟩, rfl⟩
      · refine ⟨[sliced (some ⟨bl, o, none⟩) 0 i cap j.size], ⟨if cap = 0 then some ⟨bl, o, none⟩ else (some ⟨bl, o, none⟩ : Option Addr).map (·.add (0 * j.size)), cap - 0, ?_, ⟨by rw [hmin]; omega, by rw [hmin, Nat.sub_zero]; omega⟩, .inr ⟨bl, o, ?_, hrow.take⟩⟩, rfl⟩
        · simp only [sliced, hmin, Nat.sub_zero]
        · split <;> simp [Addr.add]
/-- 'row[l:]'. -/
theorem ok_slJl {t et : TypeId} [ht : TySl P t et] {sz by' : Nat} {zz : Value} [hz : TySz P et sz by' zz] {α : Type} {e : Enc α} {xs : List α} {ik : IntKind} {i0 : Int} (hx : opK S x = some (b, kRd (eL e) xs)) (hb : p = true → b = true) (hy : opK S y = some (b', kInt ik i0)) (hb' : p = true → b' = true) (h : p = true → 0 ≤ i0 ∧ i0 ≤ xs.length) (hs : sz = e.n) :
    OpOk P c S M ⟨d, .slice t x (some y) none none, ty, pos, af, gd⟩ p (kRd (eL e) (xs.drop i0.toNat)) none :=
  OpOk.pure fun hp a g w _ _ ho => by
    have hi : a.eval y = _ := ho y (by simp [Op.operands]) b' _ hy (hb' hp)
    have hlt0 := h hp
    obtain ⟨i, rfl⟩ : ∃ i : Nat, i0 = i := ⟨i0.toNat, by omega⟩
    rw [Int.toNat_natCast]
    have hlt : i ≤ xs.length := by omega
    obtain ⟨cs, ⟨ad, cap, rfl, ⟨hl1, hl2⟩, hr⟩, h2⟩ := ho x (by simp [Op.operands]) b _ hx (hb hp)
    simp only [eL, Bool.false_eq_true, if_false, List.headD_cons] at h2
    obtain ⟨j, hj, rfl, rfl, _⟩ := hz.h
    have hun : P.underlying t = some (.slice (P.elem t)) := by rw [ht.h]; simp [Program.elem, ht.h]
    have hel : P.elem t = et := by simp [Program.elem, ht.h]
    have hsz : (sizeOf et).run P w = .ok j.size w := by simp [sizeOf, typeInfo, hj]
    refine ⟨sliced ad i xs.length cap j.size, ?_, ?_⟩
    · simp only [execOp, h2, hi, Option.map]
      rw [Sem.run_bind, run_sliceAt_slice w t _ _ _ _ hun, run_slice_l w t _ xs.length cap hun ik i (by omega) (by omega), hel]
      simp only [Result.andThen_ok, Sem.run_pure, hsz, Int.toNat_natCast]
    · have hmin : (xs.drop i).length = xs.length - i := List.length_drop
      refine ⟨[sliced ad i xs.length cap j.size], ⟨if cap = i then ad else ad.map (·.add (i * j.size)), cap - i, ?_, ⟨by rw [hmin]; omega, by rw [hmin]; omega⟩, ?_⟩, rfl⟩
      · simp only [sliced, hmin]
      · by_cases h0 : xs.drop i = []
        · exact .inl h0
        · have hne : i < xs.length := by
            rcases Nat.lt_or_ge i xs.length with h | h
            · exact h
            · exact absurd (List.drop_eq_nil_of_le h) h0
          rcases hr with rfl | ⟨bl, o, rfl, hrow⟩
          · simp at hne
          · exact .inr ⟨bl, o + i * j.size, by rw [if_neg (by omega)]; simp [Addr.add], by rw [hs]; exact hrow.drop⟩
end
end Go.Fl

/- Functions that return a part of their argument; calls that change a lent row and return a part of it; queues that become immutable. No program in sight. -/
namespace Go.Fl
open Go Go.RowKit
instance {t n o l : Nat} : OneC (kOsq t n o l) := ⟨fun ⟨_, _, _, _, _, _, h⟩ => by subst h; rfl⟩
/-! ### 1. Slices with their address -/
/-- A slice with its address and its room, and what it reads in immutable memory. -/
def kSlv {α : Type} (e : Enc α) (ad : Option Addr) (cap : Nat) (xs : List α) : Know := fun g v => v = .slice ad xs.length cap ∧ kRd (eL e) xs g v
instance {α : Type} (e : Enc α) (ad : Option Addr) (cap : Nat) (xs : List α) : KDep (kSlv e ad cap xs) [] := ⟨fun hJ hd h => ⟨h.1, (inferInstance : KDep (kRd (eL e) xs) []).dep hJ hd h.2⟩⟩
section
variable {P : Program} {c : Ctx} {S : Slots} {M : Conts} {p : Bool} {d : Option Tmp} {ty : TypeId} {pos : String} {af : Array Edge} {gd : Option (Nat × Bool)} {x y z : Operand} {b b' b'' : Bool}
end
/-! ### 2. A queue becomes immutable -/
def allOsq (S : Slots) (u n off len : Nat) : List Nat → Prop
  | [] => True
  | s :: r => look S s = some (true, kOsq u n off len) ∧ allOsq S u n off len r
section
variable {P : Program} {n : Nat} {w0 : World} {J0 : JV} {S : Slots} {M M' : Conts} {Q : Exit → Act → World → Prop} {ops : Array Oper} {rest : List Oper}
end
/-! ### 3. A lent row that is changed, and a part of it that comes back -/
/-- A slice of the call's own row t, of which the block is known by name. -/
def kOslAt (t len bl cap : Nat) : Know := fun g v => g.M t = some (.blk bl cap) ∧ v = .slice (some ⟨bl, 0, none⟩) len cap
instance (t len bl cap : Nat) : KDep (kOslAt t len bl cap) [t] := ⟨fun _ hd ⟨h1, h2⟩ => ⟨(hd t (by simp)).trans h1, h2⟩⟩
instance (t len bl cap : Nat) : KHas (kOslAt t len bl cap) t := ⟨fun ⟨h1, _⟩ => by rw [h1]; simp⟩
def RetBr (w : World) (J : JV) (b cap : Nat) (res : Know) (ct' : Cont) : Ending → World → Prop := fun e w' => ∃ r J', e = .returned r ∧ But (.blk b cap) w w' ∧ J.le J' ∧ (∀ b' o, b' < w.heap.size → J' b' o = J b' o) ∧ Im J' w' ∧ res (g1 J' b cap) r ∧ ct' (g1 J' b cap) (.blk b cap) w'.heap[b]?
/-- f changes the row that is its first argument; what it returns may be a part of it. -/
def CtR (P : Program) (f : FuncId) (len : Nat) (ks : List Know) (ct ct' : Cont) (res : Know) : Prop :=
  ∀ w J b cap, Im J w → (∀ o, J b o = none) → b < w.heap.size → ct (g1 J b cap) (.blk b cap) w.heap[b]? → ∀ v vs, v = .slice (some ⟨b, 0, none⟩) len cap → allK ⟨J, noM⟩ ks vs → Calls P f (v :: vs).toArray w (RetBr w J b cap res ct')
section
variable {P : Program} {c : Ctx} {S : Slots} {M : Conts} {p : Bool} {d : Option Tmp} {ty : TypeId} {pos : String} {af : Array Edge} {gd : Option (Nat × Bool)} {x : Operand} {b : Bool}
end
theorem CtR.mk {P : Program} {f : FuncId} {fn : Func} {code : Code} {args : List Know} {res : Know} {ct ct' : Cont} {n len : Nat} (hf : P.funcs[f]? = some fn) (hb : fn.body = some code) (hn : fn.ntmps = n) (hl : Nat.ble (args.length + 1) n = true) [hj : AllJ args] [hcd : CDep ct []]
    (h : ∀ w J b cap, Tr P ⟨w, J, [b], n⟩ (⟨0, true, [0], kOslAt 0 len b cap⟩ :: params 1 args) [⟨0, [], ct⟩] code (bodyPost P fn (RetBr w J b cap res ct'))) : CtR P f len args ct ct' res := by
  intro w J b cap him hJ hlt hct v vs hv hvs
  have hlen := allK_len hvs
  have hle : args.length + 1 ≤ n := Nat.le_of_ble_eq_true hl
  have hM : ∀ t bk, (g1 J b cap).M t = some bk → t = 0 ∧ bk = .blk b cap := fun t bk ht => by
    simp only [g1] at ht
    split at ht
    · rename_i e; cases ht; exact ⟨e, rfl⟩
    · cases ht
  refine calls_of_wp hf hb (h w J b cap _ (g1 J b cap) w ⟨⟨⟨rfl, rfl, rfl, Nat.le_refl _, fun _ _ _ => rfl⟩, JV.le_refl _, fun _ _ _ => rfl, him, fun t b' cap' ht => ?_, fun t t' b1 c1 c2 h1 h2 => ?_⟩, ?_, ?_, ?_, by simp, ?_, ?_, rfl, ?_⟩)
  · obtain ⟨_, e⟩ := hM _ _ ht
    cases e
    exact ⟨.inr (by simp), hlt, hJ⟩
  · rw [(hM _ _ h1).1, (hM _ _ h2).1]
  · intro t bb k hk
    simp only [look] at hk
    cases hb0 : Nat.beq 0 t with
    | true =>
      rw [hb0] at hk
      simp only [cond_true, Option.some.injEq, Prod.mk.injEq] at hk
      obtain ⟨rfl, rfl⟩ := hk
      have := Nat.eq_of_beq_eq_true hb0
      subst this
      refine ⟨fun _ => ?_, fun hf => (by cases hf)⟩
      have : ((v :: vs).toArray ++ Array.replicate (fn.ntmps - (v :: vs).toArray.size) undef).getD 0 undef = v := by
        rw [Array.getD_eq_getD_getElem?, Array.getElem?_append_left (by simp)]
        simp
      rw [this]
      exact ⟨by simp [g1], hv⟩
    | false =>
      rw [hb0] at hk
      obtain ⟨h1, rfl, u, hu, hku⟩ := params_hold (g := g1 J b cap) (allK_sameJ (g := ⟨J, noM⟩) (g' := g1 J b cap) (JV.le_refl _) hj.all hvs) hk
      refine ⟨fun _ => ?_, fun hf => (by cases hf)⟩
      have hu' : (v :: vs)[t]? = some u := by
        rw [show t = (t - 1) + 1 by omega]; simpa using hu
      have ht : t < (v :: vs).length := (List.getElem?_eq_some_iff.1 hu').1
      have : ((v :: vs).toArray ++ Array.replicate (fn.ntmps - (v :: vs).toArray.size) undef).getD t undef = u := by
        rw [Array.getD_eq_getD_getElem?, Array.getElem?_append_left (by simpa using ht)]
        simp only [List.getElem?_toArray]
        rw [hu']; rfl
      rw [this]; exact hku
  · intro e he
    simp only [List.mem_singleton] at he
    subst he
    exact ⟨_, by simp [g1], hct⟩
  · intro t ht
    cases hm : (g1 J b cap).M t with
    | none => exact absurd hm ht
    | some bk => simp [(hM _ _ hm).1]
  · intro e he
    rcases List.mem_cons.1 he with rfl | he
    · exact ⟨inferInstance, fun t ht => by simpa using ht⟩
    · obtain ⟨h1, h2⟩ := params_dep hj.all he
      exact ⟨h1, fun t ht => by rw [h2] at ht; cases ht⟩
  · intro e he
    simp only [List.mem_singleton] at he
    subst he
    exact ⟨hcd, fun t ht => by cases ht⟩
  · simp only [Array.size_append, List.size_toArray, Array.size_replicate, List.length_cons]; omega
section
variable {P : Program} {n : Nat} {w0 : World} {J0 : JV} {S : Slots} {M : Conts} {fn : Func} {b cap s t len : Nat} {ct ct' : Cont} {dep : List Nat} {k res : Know}
end
section
variable {P : Program} {c : Ctx} {ops : Array Oper} {S : Slots} {M : Conts} {rest : List Oper} {Q : Exit → Act → World → Prop}
variable {d : Nat} {ty : TypeId} {pos : String} {af : Array Edge}
end
/-! ### 4. A struct that comes back with a row of one's own -/
section
variable {P : Program} {n0 : Nat} {w0 : World} {J0 : JV} {S : Slots} {M : Conts} {fn : Func}
end
end Go.Fl

/- Closures: values that hold pointers to things of the call's own; their calls are gone through in place, with the caller's own things. No program in sight. -/
namespace Go.Fl
open Go Go.RowKit
/-! ### 1. A closure -/
def kClo (f : FuncId) (ks : List Know) : Know := fun g v => ∃ vs : List Value, v = .func (.func f) #[] vs.toArray ∧ allK g ks vs
instance {f : FuncId} {ks : List Know} {ds : List Nat} [h : KsDep ks ds] : KDep (kClo f ks) ds := ⟨fun hl hd ⟨vs, h1, h2⟩ => ⟨vs, h1, h.dep hl hd h2⟩⟩
instance {f : FuncId} {ks : List Know} : OneC (kClo f ks) := ⟨fun ⟨_, h, _⟩ => by subst h; rfl⟩
/-- What is known of operands, as the call's own ghost has it. -/
inductive ArgsG (S : Slots) (p : Bool) : List Operand → List Know → Prop
  | nil : ArgsG S p [] []
  | cons {x : Operand} {xs : List Operand} {k : Know} {ks : List Know} {b : Bool} (hx : opK S x = some (b, k)) (hb : p = true → b = true) (r : ArgsG S p xs ks) : ArgsG S p (x :: xs) (k :: ks)
section
variable {P : Program} {c : Ctx} {S : Slots} {M : Conts} {p : Bool} {d : Option Tmp} {ty : TypeId} {pos : String} {af : Array Edge} {gd : Option (Nat × Bool)} {x : Operand} {b : Bool}
end
/-! ### 2. Things that stay where they are -/
/-- Whatever the slot: the thing t lies in bk. -/
def kTag (t : Nat) (bk : Bk) : Know := fun g _ => g.M t = some bk
instance (t : Nat) (bk : Bk) : KDep (kTag t bk) [t] := ⟨fun _ hd h => (hd t (by simp)).trans h⟩
instance (t : Nat) (bk : Bk) : KHas (kTag t bk) t := ⟨fun {g _} (h : g.M t = some bk) => by rw [h]; simp⟩
def tagSlots (n : Nat) (bks : Nat → Bk) : List Nat → Slots
  | [] => []
  | t :: ts => ⟨n + t, true, [t], kTag t (bks t)⟩ :: tagSlots n bks ts
/-- The slots that a callee begins with. -/
def paramsG : Nat → List (List Nat) → List Know → Slots
  | i, d :: ds, k :: ks => ⟨i, true, d, k⟩ :: paramsG (i + 1) ds ks
  | _, _, _ => []
inductive DepsK : List Know → List (List Nat) → Prop
  | nil : DepsK [] []
  | cons {k : Know} {ks : List Know} {d : List Nat} {ds : List (List Nat)} (h : KDep k d) (r : DepsK ks ds) : DepsK (k :: ks) (d :: ds)
class DepsOf (ks : List Know) (ds : outParam (List (List Nat))) : Prop where
  h : DepsK ks ds
instance : DepsOf [] [] := ⟨.nil⟩
instance {k : Know} {ks : List Know} {d : List Nat} {ds : List (List Nat)} [h : KDep k d] [r : DepsOf ks ds] : DepsOf (k :: ks) (d :: ds) := ⟨.cons h r.h⟩
/-- What a call that was gone through in place leaves. -/
def RetI (c : Ctx) (keep : List Nat) (bks : Nat → Bk) (M : Conts) (res : Know) : Ending → World → Prop := fun e w' => ∃ r g', e = .returned r ∧ Ok c g' w' ∧ ContsHold M g' w' ∧ (∀ t, g'.M t ≠ none → t ∈ tags M) ∧ (tags M).Nodup ∧ ContsDep M M ∧ (∀ t ∈ keep, g'.M t = some (bks t)) ∧ res g' r
/-- What stays known of slots. -/
def keepS (keep : List Nat) : Slots → Slots
  | [] => []
  | e :: S => (cond (subT e.dep keep) e ⟨e.s, e.b, [], kAny⟩) :: keepS keep S
section
variable {P : Program} {ops : Array Oper} {S : Slots} {M M' : Conts} {rest : List Oper} {Q : Exit → Act → World → Prop}
variable {d : Nat} {ty : TypeId} {pos : String} {af : Array Edge} {w0 : World} {J0 : JV} {bor : List Nat} {n : Nat}
end
/-! ### 3. The end of such a call -/
inductive KeptT (S : Slots) (n : Nat) (bks : Nat → Bk) : List Nat → Prop
  | nil : KeptT S n bks []
  | cons {t : Nat} {ts : List Nat} (h : look S (n + t) = some (true, kTag t (bks t))) (r : KeptT S n bks ts) : KeptT S n bks (t :: ts)
theorem KeptT.holds {S : Slots} {n : Nat} {bks : Nat → Bk} {a : Act} {g : Gh} (hs : SlotsHold S a g) : ∀ {ts : List Nat}, KeptT S n bks ts → ∀ t ∈ ts, g.M t = some (bks t)
  | _ :: _, .cons h r, t, ht => by
    rcases List.mem_cons.1 ht with rfl | ht
    · exact (hs _ _ _ h).1 rfl
    · exact r.holds hs t ht
section
variable {P : Program} {c : Ctx} {S : Slots} {M : Conts} {fn : Func} {keep : List Nat} {bks : Nat → Bk} {n t : Nat} {k res : Know}
end
end Go.Fl

/- Contracts: renumbered origamis; the law of labels. -/
namespace Go.Fl
open Go Go.Proofs

set_option maxRecDepth 100000 in
set_option maxHeartbeats 1000000 in
theorem ct_shuffled (n : Nat) (ch : List Int) (h0 : 0 < n) (hn : n ≤ 60) (hc : ∀ i, i < ch.length → 0 ≤ nth ch i ∧ nth ch i ≤ 255) : Ct Try.prog 8 [kI n, kRd (eL (eInt .u8)) ch] (kRd (eL eI) (shufL ch n)) := by
  refine Ct.mk Try.func8 rfl Try.ntmps8 rfl (fun w J => ?_)
  refine Tr.fact (s := 1) rfl (fun _ _ h => lenB h) (fun hb => ?_)
  refine Tr.seq ?_
  refine Tr.rg ?_
  refine TrL.op (ok_assign rfl (fun _ => rfl)) rfl rfl ?_
  refine TrL.fin ?_
  refine End.nxt ?_
  refine Tr.seq ?_
  refine Tr.rg ?_
  refine TrL.op (ok_assign rfl (fun _ => rfl)) rfl rfl ?_
  refine TrL.op (ok_assign rfl (fun _ => rfl)) rfl rfl ?_
  refine TrL.fin ?_
  refine End.nxt ?_
  refine Tr.seq ?_
  refine Tr.seq ?_
  refine Tr.rg ?_
  refine TrL.op (ok_assign rfl (fun _ => rfl)) rfl rfl ?_
  refine TrL.fin ?_
  refine End.nxt ?_
  refine Tr.grow (s := 5) rfl rfl 5 rfl 3 eI rfl ?_
  refine Tr.for1 (σ := Nat) [⟨0, true, _, _⟩, ⟨1, true, _, _⟩, ⟨6, true, _, _⟩] [] (fun k => [⟨7, true, [], kI (k : Int)⟩, ⟨5, true, [5], kOsl 5 k⟩]) (fun k => [⟨5, [], cArr true 3 eI (sqs k) k⟩]) (fun k => k ≤ n) (fun k => n = k) (fun k => n - k) (0) (Nat.zero_le _) (Ent.mk (.i rfl (by first | rfl | omega | (simp; done) | (simp; omega) | assumption) <| .o rfl (by first | rfl | omega | (simp; done) | (simp; omega) | assumption) rfl <| .k rfl rfl <| .k rfl rfl <| .k rfl rfl <| .nil) (.a (by rfl) (by first | rfl | omega | (simp; done) | (simp; omega) | assumption) <| .nil) rfl) ?_ ?_
  · intro k hR0
    refine Tr.norm (S' := [⟨7, true, _, _⟩, ⟨5, true, _, _⟩, ⟨0, true, _, _⟩, ⟨1, true, _, _⟩, ⟨6, true, _, _⟩]) (M' := [⟨5, _, _⟩]) rfl rfl ?_
    refine Tr.seq ?_
    refine Tr.seq ?_
    refine Tr.rg ?_
    refine TrL.op (ok_move rfl (fun _ => rfl)) rfl rfl ?_
    refine TrL.op (ok_move rfl (fun _ => rfl)) rfl rfl ?_
    refine TrL.op (ok_lss rfl (fun _ => rfl) rfl (fun _ => rfl)) rfl rfl ?_
    refine TrL.fin ?_
    refine End.nxt ?_
    refine Tr.cnd rfl ?_ ?_
    · intro h3
      replace h3 := of_decide_eq_true h3
      refine Tr.skip ?_
      refine End.nxt ?_
      refine Tr.seq ?_
      refine Tr.blk ?_
      refine Tr.rg ?_
      refine TrL.op (ok_move rfl (fun _ => rfl)) rfl rfl ?_
      refine TrL.op (ok_move rfl (fun _ => rfl)) rfl rfl ?_
      refine TrL.new (ok_bsl eI 17 (fun hp => .cons rfl <| .nil) rfl rfl rfl rfl) rfl rfl rfl rfl ?_
      refine TrL.app rfl rfl rfl rfl rfl rfl rfl rfl (by first | omega | (simp only [List.length_cons, List.length_nil]; omega)) (by first | omega | (simp only [List.length_cons, List.length_nil]; omega)) ?_
      refine TrL.norm (S' := [⟨_, _, _, _⟩, ⟨_, _, _, _⟩, ⟨_, _, _, _⟩, ⟨_, _, _, _⟩, ⟨_, _, _, _⟩, ⟨_, _, _, _⟩, ⟨_, _, _, _⟩, ⟨_, _, _, _⟩, ⟨_, _, _, _⟩, ⟨_, _, _, _⟩, ⟨_, _, _, _⟩, ⟨_, _, _, _⟩]) rfl rfl ?_
      refine TrL.op (ok_assign rfl (fun _ => rfl)) rfl rfl ?_
      refine TrL.fin ?_
      refine End.blk ?_
      refine End.nxt ?_
      refine Tr.rg ?_
      refine TrL.op (ok_move rfl (fun _ => rfl)) rfl rfl ?_
      refine TrL.op (ok_add rfl (fun _ => rfl) rfl (fun _ => rfl) (fun _ => by omega)) rfl rfl ?_
      refine TrL.op (ok_assign rfl (fun _ => rfl)) rfl rfl ?_
      refine TrL.fin ?_
      exact End.lp (k + 1) (by first | rfl | omega | (simp; done) | (simp; omega) | assumption) (by omega) (Ent.mk (.i rfl (by first | rfl | omega | (simp; done) | (simp; omega) | assumption) <| .o rfl (by first | rfl | omega | (simp; done) | (simp; omega) | assumption) rfl <| .k rfl rfl <| .k rfl rfl <| .k rfl rfl <| .nil) (.a sqs_succ.symm (by first | rfl | omega | (simp; done) | (simp; omega) | assumption) <| .nil) rfl)
    · intro h3
      replace h3 := Int.not_lt.1 (of_decide_eq_false h3)
      refine Tr.exit ?_
      refine Exs.thn ?_
      refine Exs.thn ?_
      refine Exs.here ?_
      exact End.cut (k) (by omega) (Ent.mk (.i rfl (by first | rfl | omega | (simp; done) | (simp; omega) | assumption) <| .o rfl (by first | rfl | omega | (simp; done) | (simp; omega) | assumption) rfl <| .k rfl rfl <| .k rfl rfl <| .k rfl rfl <| .nil) (.a (by first | rfl | omega | (simp; done) | (simp; omega) | assumption) (by first | rfl | omega | (simp; done) | (simp; omega) | assumption) <| .nil) rfl)
  · rintro _ rfl
    refine End.norm (S' := [⟨7, true, _, _⟩, ⟨5, true, _, _⟩, ⟨0, true, _, _⟩, ⟨1, true, _, _⟩, ⟨6, true, _, _⟩]) (M' := [⟨5, _, _⟩]) rfl rfl ?_
    refine End.nxt ?_
    refine Tr.seq ?_
    refine Tr.seq ?_
    refine Tr.rg ?_
    refine TrL.op (ok_assign rfl (fun _ => rfl)) rfl rfl ?_
    refine TrL.frz 5 [5] ⟨rfl, trivial⟩ (by simp only [lenMax]; omega) rfl ?_
    refine TrL.norm (S' := [⟨_, _, _, _⟩, ⟨_, _, _, _⟩, ⟨_, _, _, _⟩, ⟨_, _, _, _⟩, ⟨_, _, _, _⟩, ⟨_, _, _, _⟩, ⟨_, _, _, _⟩]) rfl rfl ?_
    refine TrL.fin ?_
    refine End.nxt ?_
    refine Tr.grow (s := 6) rfl rfl 6 rfl 3 eI rfl ?_
    refine Tr.for1 (σ := Nat) [⟨1, true, _, _⟩] [] (fun i => [⟨8, true, [], kI (i : Int)⟩, ⟨5, true, [], kRd (eL eI) (shufS ch n i).1⟩, ⟨6, true, [6], kOsl 6 i⟩]) (fun i => [⟨6, [], cArr true 3 eI (shufS ch n i).2 i⟩]) (fun i => i ≤ n) (fun i => n = i) (fun i => n - i) (0) (Nat.zero_le _) (Ent.mk (.i rfl (by first | rfl | omega | (simp; done) | (simp; omega) | assumption) <| .r rfl (by rfl) <| .o rfl (by first | rfl | omega | (simp; done) | (simp; omega) | assumption) rfl <| .k rfl rfl <| .nil) (.a (by rfl) (by first | rfl | omega | (simp; done) | (simp; omega) | assumption) <| .nil) rfl) ?_ ?_
    · intro i hR1
      refine Tr.norm (S' := [⟨8, true, _, _⟩, ⟨5, true, _, _⟩, ⟨6, true, _, _⟩, ⟨1, true, _, _⟩]) (M' := [⟨6, _, _⟩]) rfl rfl ?_
      have hsl := fun (h : i ≤ n) => shufS_len (ch := ch) (n := n) h
      refine Tr.seq ?_
      refine Tr.seq ?_
      refine Tr.rg ?_
      refine TrL.op (ok_move rfl (fun _ => rfl)) rfl rfl ?_
      refine TrL.op (ok_lenJ rfl (fun _ => rfl)) rfl rfl ?_
      refine TrL.op (ok_gtr rfl (fun _ => rfl) rfl (fun _ => rfl)) rfl rfl ?_
      refine TrL.fin ?_
      refine End.nxt ?_
      refine Tr.cnd rfl ?_ ?_
      · intro h7
        replace h7 := of_decide_eq_true h7
        obtain ⟨hs1, hs2⟩ := hsl (by omega)
        have hkl := shufK_lt (ch := ch) (i := i) (show 0 < (shufS ch n i).1.length by omega)
        have hcc := fun (h : i < ch.length) => hc i h
        refine Tr.skip ?_
        refine End.nxt ?_
        refine Tr.seq ?_
        refine Tr.blk ?_
        refine Tr.seq ?_
        refine Tr.rg ?_
        refine TrL.op (ok_assign rfl (fun _ => rfl)) rfl rfl ?_
        refine TrL.fin ?_
        refine End.nxt ?_
        refine Tr.meet2 (σ := Unit) [⟨1, true, _, _⟩, ⟨5, true, _, _⟩, ⟨6, true, _, _⟩, ⟨8, true, _, _⟩] [⟨6, _, _⟩] (.k rfl rfl <| .k rfl rfl <| .k rfl rfl <| .k rfl rfl <| .nil) (.k rfl <| .nil) (fun _ => [⟨9, true, [], kI (shufK ch (shufS ch n i).1.length i : Int)⟩]) (fun _ => []) (fun _ => True) ?_ ?_
        · skip
          refine Tr.seq ?_
          refine Tr.rg ?_
          refine TrL.op (ok_move rfl (fun _ => rfl)) rfl rfl ?_
          refine TrL.op (ok_move rfl (fun _ => rfl)) rfl rfl ?_
          refine TrL.op (ok_lenJ rfl (fun _ => rfl)) rfl rfl ?_
          refine TrL.op (ok_lss rfl (fun _ => rfl) rfl (fun _ => rfl)) rfl rfl ?_
          refine TrL.fin ?_
          refine End.nxt ?_
          refine Tr.cnd rfl ?_ ?_
          · intro h10
            replace h10 := of_decide_eq_true h10
            have hcc2 := hcc (by omega)
            refine Tr.rg ?_
            refine TrL.op (ok_move rfl (fun _ => rfl)) rfl rfl ?_
            refine TrL.op (ok_move rfl (fun _ => rfl)) rfl rfl ?_
            first | refine TrL.op (ok_idxN rfl (fun _ => rfl) rfl (fun _ => rfl) rfl (fun _ => by omega)) rfl rfl ?_ | refine TrL.op (ok_idxP rfl (fun _ => rfl) rfl (fun _ => rfl) rfl (fun _ => by omega)) rfl rfl ?_
            refine TrL.op (ok_ldP rfl (fun _ => rfl) rfl) rfl rfl ?_
            refine TrL.op (ok_convI rfl (fun _ => rfl) (fun _ => by omega)) rfl rfl ?_
            refine TrL.op (ok_move rfl (fun _ => rfl)) rfl rfl ?_
            refine TrL.op (ok_lenJ rfl (fun _ => rfl)) rfl rfl ?_
            refine TrL.op (ok_rem rfl (fun _ => rfl) rfl (fun _ => rfl) (fun _ => by omega)) rfl rfl ?_
            refine TrL.op (ok_assign rfl (fun _ => rfl)) rfl rfl ?_
            refine TrL.fin ?_
            exact End.cut (()) (by first | rfl | omega | (simp; done) | (simp; omega) | assumption) (Ent.mk (.i rfl (shufK_t (by omega) (by omega) hcc2.1) <| .k rfl rfl <| .k rfl rfl <| .k rfl rfl <| .k rfl rfl <| .nil) (.k rfl <| .nil) rfl)
          · intro h10
            replace h10 := Int.not_lt.1 (of_decide_eq_false h10)
            refine Tr.skip ?_
            exact End.cut (()) (by first | rfl | omega | (simp; done) | (simp; omega) | assumption) (Ent.mk (.i rfl (shufK_f (by omega)) <| .k rfl rfl <| .k rfl rfl <| .k rfl rfl <| .k rfl rfl <| .nil) (.k rfl <| .nil) rfl)
        · intro _ hM
          refine Tr.norm (S' := [⟨9, true, _, _⟩, ⟨1, true, _, _⟩, ⟨5, true, _, _⟩, ⟨6, true, _, _⟩, ⟨8, true, _, _⟩]) (M' := [⟨6, _, _⟩]) rfl rfl ?_
          refine Tr.seq ?_
          refine Tr.rg ?_
          refine TrL.op (ok_move rfl (fun _ => rfl)) rfl rfl ?_
          refine TrL.op (ok_move rfl (fun _ => rfl)) rfl rfl ?_
          refine TrL.op (ok_move rfl (fun _ => rfl)) rfl rfl ?_
          first | refine TrL.op (ok_idxN rfl (fun _ => rfl) rfl (fun _ => rfl) rfl (fun _ => by omega)) rfl rfl ?_ | refine TrL.op (ok_idxP rfl (fun _ => rfl) rfl (fun _ => rfl) rfl (fun _ => by omega)) rfl rfl ?_
          refine TrL.op (ok_ldP rfl (fun _ => rfl) rfl) rfl rfl ?_
          refine TrL.new (ok_bsl eI 41 (fun hp => .cons rfl <| .nil) rfl rfl rfl rfl) rfl rfl rfl rfl ?_
          refine TrL.app rfl rfl rfl rfl rfl rfl rfl rfl (by first | omega | (simp only [List.length_cons, List.length_nil]; omega)) (by first | omega | (simp only [List.length_cons, List.length_nil]; omega)) ?_
          refine TrL.norm (S' := [⟨_, _, _, _⟩, ⟨_, _, _, _⟩, ⟨_, _, _, _⟩, ⟨_, _, _, _⟩, ⟨_, _, _, _⟩, ⟨_, _, _, _⟩, ⟨_, _, _, _⟩, ⟨_, _, _, _⟩, ⟨_, _, _, _⟩, ⟨_, _, _, _⟩, ⟨_, _, _, _⟩, ⟨_, _, _, _⟩]) rfl rfl ?_
          refine TrL.op (ok_assign rfl (fun _ => rfl)) rfl rfl ?_
          refine TrL.fin ?_
          refine End.nxt ?_
          refine Tr.draw 8 mixed (by kernel_rfl) ?_
          have htl : (List.take ((shufK ch (shufS ch n i).1.length i : Nat) : Int).toNat (shufS ch n i).1).length = shufK ch (shufS ch n i).1.length i := by rw [List.length_take]; omega
          have hdl : (List.drop (((shufK ch (shufS ch n i).1.length i : Nat) : Int) + 1).toNat (shufS ch n i).1).length = (shufS ch n i).1.length - (shufK ch (shufS ch n i).1.length i + 1) := by rw [List.length_drop]; omega
          refine RunD.op (ok_move rfl (fun _ => rfl)) rfl rfl ?_
          refine RunD.op (ok_move rfl (fun _ => rfl)) rfl rfl ?_
          refine RunD.op (ok_slJh rfl (fun _ => rfl) rfl (fun _ => rfl) (fun _ => by omega)) rfl rfl ?_
          refine RunD.new (ok_callN 46 (fun hp => ct_CopyIntsN _ (by omega)) (.a rfl (fun _ => rfl) <| .nil)) rfl rfl rfl rfl ?_
          refine RunD.op (ok_move rfl (fun _ => rfl)) rfl rfl ?_
          refine RunD.op (ok_move rfl (fun _ => rfl)) rfl rfl ?_
          refine RunD.op (ok_add rfl (fun _ => rfl) rfl (fun _ => rfl) (fun _ => by omega)) rfl rfl ?_
          refine RunD.op (ok_slJl rfl (fun _ => rfl) rfl (fun _ => rfl) (fun _ => by omega) rfl) rfl rfl ?_
          refine RunD.z ?_
          refine TrL.app rfl rfl rfl rfl rfl rfl rfl rfl (by omega) (by omega) ?_
          refine TrL.norm (S' := [⟨_, _, _, _⟩, ⟨_, _, _, _⟩, ⟨_, _, _, _⟩, ⟨_, _, _, _⟩, ⟨_, _, _, _⟩, ⟨_, _, _, _⟩, ⟨_, _, _, _⟩, ⟨_, _, _, _⟩, ⟨_, _, _, _⟩, ⟨_, _, _, _⟩, ⟨_, _, _, _⟩, ⟨_, _, _, _⟩, ⟨_, _, _, _⟩, ⟨_, _, _, _⟩, ⟨_, _, _, _⟩, ⟨_, _, _, _⟩, ⟨_, _, _, _⟩, ⟨_, _, _, _⟩, ⟨_, _, _, _⟩, ⟨_, _, _, _⟩, ⟨_, _, _, _⟩, ⟨_, _, _, _⟩]) rfl rfl ?_
          refine TrL.op (ok_assign rfl (fun _ => rfl)) rfl rfl ?_
          refine TrL.frz 46 [5, 51] ⟨rfl, rfl, trivial⟩ (by simp only [lenMax]; omega) rfl ?_
          refine TrL.norm (S' := [⟨_, _, _, _⟩, ⟨_, _, _, _⟩, ⟨_, _, _, _⟩, ⟨_, _, _, _⟩, ⟨_, _, _, _⟩, ⟨_, _, _, _⟩, ⟨_, _, _, _⟩, ⟨_, _, _, _⟩, ⟨_, _, _, _⟩, ⟨_, _, _, _⟩, ⟨_, _, _, _⟩, ⟨_, _, _, _⟩, ⟨_, _, _, _⟩, ⟨_, _, _, _⟩, ⟨_, _, _, _⟩, ⟨_, _, _, _⟩, ⟨_, _, _, _⟩, ⟨_, _, _, _⟩, ⟨_, _, _, _⟩, ⟨_, _, _, _⟩, ⟨_, _, _, _⟩, ⟨_, _, _, _⟩, ⟨_, _, _, _⟩, ⟨_, _, _, _⟩, ⟨_, _, _, _⟩]) rfl rfl ?_
          refine TrL.fin ?_
          refine End.blk ?_
          refine End.nxt ?_
          refine Tr.rg ?_
          refine TrL.op (ok_move rfl (fun _ => rfl)) rfl rfl ?_
          refine TrL.op (ok_add rfl (fun _ => rfl) rfl (fun _ => rfl) (fun _ => by omega)) rfl rfl ?_
          refine TrL.op (ok_assign rfl (fun _ => rfl)) rfl rfl ?_
          refine TrL.fin ?_
          exact End.lp (i + 1) (by first | rfl | omega | (simp; done) | (simp; omega) | assumption) (by omega) (Ent.mk (.i rfl (by first | rfl | omega | (simp; done) | (simp; omega) | assumption) <| .r rfl (by rfl) <| .o rfl (by first | rfl | omega | (simp; done) | (simp; omega) | assumption) rfl <| .k rfl rfl <| .nil) (.a (by rfl) (by first | rfl | omega | (simp; done) | (simp; omega) | assumption) <| .nil) rfl)
      · intro h7
        replace h7 := Int.not_lt.1 (of_decide_eq_false h7)
        obtain ⟨hs1, hs2⟩ := hsl (by omega)
        refine Tr.exit ?_
        refine Exs.thn ?_
        refine Exs.thn ?_
        refine Exs.here ?_
        exact End.cut (i) (by omega) (Ent.mk (.i rfl (by first | rfl | omega | (simp; done) | (simp; omega) | assumption) <| .r rfl (by first | rfl | omega | (simp; done) | (simp; omega) | assumption) <| .o rfl (by first | rfl | omega | (simp; done) | (simp; omega) | assumption) rfl <| .k rfl rfl <| .nil) (.a (by first | rfl | omega | (simp; done) | (simp; omega) | assumption) (by first | rfl | omega | (simp; done) | (simp; omega) | assumption) <| .nil) rfl)
    · rintro _ rfl
      refine End.norm (S' := [⟨8, true, _, _⟩, ⟨5, true, _, _⟩, ⟨6, true, _, _⟩, ⟨1, true, _, _⟩]) (M' := [⟨6, _, _⟩]) rfl rfl ?_
      refine End.nxt ?_
      refine Tr.seq ?_
      refine Tr.rg ?_
      refine TrL.op (ok_move rfl (fun _ => rfl)) rfl rfl ?_
      refine TrL.op (ok_assign rfl (fun _ => rfl)) rfl rfl ?_
      refine TrL.fin ?_
      refine End.nxt ?_
      refine Tr.frz 6 [4] ⟨rfl, trivial⟩ (by simp only [lenMax]; omega) rfl ?_
      refine Tr.ret ?_
      exact Rts.res1 (fn := Try.f8) rfl (.r rfl (by rfl) <| .nil)

set_option maxRecDepth 100000 in
set_option maxHeartbeats 2000000 in
theorem ct_OrigamiRenumbered (a b : Ori) (ch : List Int) (hc : ∀ i, i < ch.length → 0 ≤ nth ch i ∧ nth ch i ≤ 255) : Ct Try.prog 3 [kRd eO a, kRd eO b, kRd (eL (eInt .u8)) ch] (kB true) := by
  refine Ct.mk Try.func3 rfl Try.ntmps3 rfl (fun w J => ?_)
  refine Tr.seq ?_
  refine Tr.rg ?_
  refine TrL.new (ok_box 3 rfl (fun _ => rfl) rfl) rfl rfl rfl rfl ?_
  refine TrL.new (ok_box 4 rfl (fun _ => rfl) rfl) rfl rfl rfl rfl ?_
  refine TrL.op (ok_assign rfl (fun _ => rfl)) rfl rfl ?_
  refine TrL.fin ?_
  refine End.nxt ?_
  refine Tr.seq ?_
  refine Tr.seq ?_
  refine Tr.rg ?_
  refine TrL.op (ok_call (fun hp => ct_awake) (.nil)) rfl rfl ?_
  refine TrL.op (ok_not rfl (fun _ => rfl)) rfl rfl ?_
  refine TrL.fin ?_
  refine End.nxt ?_
  refine Tr.cnd rfl ?_ ?_
  · intro h1
    simp at h1
  · intro h1
    refine Tr.skip ?_
    refine End.nxt ?_
    refine Tr.seq ?_
    refine Tr.seq ?_
    refine Tr.rg ?_
    refine TrL.op (ok_fldO rfl (fun _ => rfl)) rfl rfl ?_
    refine TrL.op (ok_ldB rfl (fun _ => rfl) rfl) rfl rfl ?_
    refine TrL.op (ok_lenJ rfl (fun _ => rfl)) rfl rfl ?_
    refine TrL.op (ok_gtr rfl (fun _ => rfl) rfl (fun _ => rfl)) rfl rfl ?_
    refine TrL.op (ok_move rfl (fun _ => rfl)) rfl rfl ?_
    refine TrL.gd rfl rfl rfl (ok_fldO rfl (fun _ => rfl)) rfl rfl ?_
    refine TrL.gd rfl rfl rfl (ok_ldB rfl id rfl) rfl rfl ?_
    refine TrL.gd rfl rfl rfl (ok_lenJ rfl id) rfl rfl ?_
    refine TrL.gd rfl rfl rfl (ok_gtr rfl id rfl (fun _ => rfl)) rfl rfl ?_
    refine TrL.op (ok_or rfl (fun _ => rfl) rfl (fun hp h => gdF2 ((fun _ => rfl) hp) h)) rfl rfl ?_
    refine TrL.op (ok_move rfl (fun _ => rfl)) rfl rfl ?_
    refine TrL.gd rfl rfl rfl (ok_ldBS rfl (fun _ => rfl)) rfl rfl ?_
    refine TrL.gd rfl rfl rfl (ok_ldBS rfl (fun _ => rfl)) rfl rfl ?_
    refine TrL.gd rfl rfl rfl (ok_call (fun hp => ct_rCheckTwo _ _) (.s rfl id rfl <| .s rfl id rfl <| .nil)) rfl rfl ?_
    refine TrL.gd rfl rfl rfl (ok_neq rfl id rfl (fun _ => rfl)) rfl rfl ?_
    refine TrL.op (ok_or rfl (fun _ => rfl) rfl (fun hp h => gdF2 ((fun _ => rfl) hp) h)) rfl rfl ?_
    refine TrL.fin ?_
    refine End.nxt ?_
    refine Tr.cnd rfl ?_ ?_
    · intro h3
      refine Tr.seq ?_
      refine Tr.rg ?_
      refine TrL.op (ok_assign rfl (fun _ => rfl)) rfl rfl ?_
      refine TrL.fin ?_
      refine End.nxt ?_
      refine Tr.ret ?_
      refine Rts.thn ?_
      exact Rts.res1 (fn := Try.f3) rfl (.b rfl (by rfl) <| .nil)
    · intro h3
      have hc2 : chk2 a b = 0 := by simp at h3; exact h3.2
      obtain ⟨va, ca, vb, cb⟩ := chk2_zero hc2
      have hv1 := va.pos
      have hv2 := va.le
      have P := shufL_perm (ch := ch) (n := a.1.length)
      have hpl := P.ln
      have hpr := P.rg
      have vc := ren_valid va P
      have iso := ren_iso P
      have cc := iso.conn va ca vc
      have ea := chk1_of va ca
      have eb := chk1_of vb cb
      have ec := chk1_of vc cc
      have hl := lbl_iso iso va ca vc cc
      have hcm := iso_cm iso va vc
      have hst := strat_iso iso va vc
      have hvt := vtx_iso iso va vc
      have hge : genF (renL a (shufL ch a.1.length)) = genF a := by unfold genF; rw [iso.eq, hvt]
      have hpe := per_iso iso va ca vc cc
      refine Tr.skip ?_
      refine End.nxt ?_
      refine Tr.seq ?_
      refine Tr.rg ?_
      refine TrL.op (ok_ldBS rfl (fun _ => rfl)) rfl rfl ?_
      refine TrL.op (ok_call (fun hp => ct_rSize _) (.s rfl (fun _ => rfl) rfl <| .nil)) rfl rfl ?_
      refine TrL.op (ok_move rfl (fun _ => rfl)) rfl rfl ?_
      refine TrL.op (ok_call (fun hp => ct_shuffled _ _ (by omega) (by omega) hc) (.a rfl (fun _ => rfl) <| .a rfl (fun _ => rfl) <| .nil)) rfl rfl ?_
      refine TrL.op (ok_assign rfl (fun _ => rfl)) rfl rfl ?_
      refine TrL.fin ?_
      refine End.nxt ?_
      refine Tr.seq ?_
      refine Tr.rg ?_
      refine TrL.op (ok_ldBS rfl (fun _ => rfl)) rfl rfl ?_
      refine TrL.op (ok_move rfl (fun _ => rfl)) rfl rfl ?_
      refine TrL.op (ok_call (fun hp => ct_rRenumber _ _ va hpl hpr) (.s rfl (fun _ => rfl) rfl <| .a rfl (fun _ => rfl) <| .nil)) rfl rfl ?_
      refine TrL.new (ok_alloc 8) rfl rfl rfl rfl ?_
      refine TrL.stB rfl rfl rfl rfl ?_
      refine TrL.fin ?_
      refine End.nxt ?_
      refine Tr.seq ?_
      refine Tr.rg ?_
      refine TrL.op (ok_ldBS rfl (fun _ => rfl)) rfl rfl ?_
      refine TrL.op (ok_call (fun hp => ct_oLabel _) (.s rfl (fun _ => rfl) rfl <| .nil)) rfl rfl ?_
      refine TrL.op (ok_move rfl (fun _ => rfl)) rfl rfl ?_
      refine TrL.op (ok_ext rfl (fun _ => rfl) rfl) rfl rfl ?_
      refine TrL.op (ok_ext rfl (fun _ => rfl) rfl) rfl rfl ?_
      refine TrL.op (ok_ext rfl (fun _ => rfl) rfl) rfl rfl ?_
      refine TrL.new (ok_alloc 9) rfl rfl rfl rfl ?_
      refine TrL.stB rfl rfl rfl rfl ?_
      refine TrL.op (ok_assign rfl (fun _ => rfl)) rfl rfl ?_
      refine TrL.op (ok_assign rfl (fun _ => rfl)) rfl rfl ?_
      refine TrL.fin ?_
      refine End.nxt ?_
      refine Tr.seq ?_
      refine Tr.rg ?_
      refine TrL.op (ok_ldBS rfl (fun _ => rfl)) rfl rfl ?_
      refine TrL.op (ok_call (fun hp => ct_oLabel _) (.s rfl (fun _ => rfl) rfl <| .nil)) rfl rfl ?_
      refine TrL.op (ok_move rfl (fun _ => rfl)) rfl rfl ?_
      refine TrL.op (ok_ext rfl (fun _ => rfl) rfl) rfl rfl ?_
      refine TrL.op (ok_ext rfl (fun _ => rfl) rfl) rfl rfl ?_
      refine TrL.op (ok_ext rfl (fun _ => rfl) rfl) rfl rfl ?_
      refine TrL.new (ok_alloc 12) rfl rfl rfl rfl ?_
      refine TrL.stB rfl rfl rfl rfl ?_
      refine TrL.op (ok_assign rfl (fun _ => rfl)) rfl rfl ?_
      refine TrL.op (ok_assign rfl (fun _ => rfl)) rfl rfl ?_
      refine TrL.fin ?_
      refine End.nxt ?_
      refine Tr.seq ?_
      refine Tr.rg ?_
      refine TrL.op (ok_ldBS rfl (fun _ => rfl)) rfl rfl ?_
      refine TrL.op (ok_call (fun hp => ct_oLabel _) (.s rfl (fun _ => rfl) rfl <| .nil)) rfl rfl ?_
      refine TrL.op (ok_move rfl (fun _ => rfl)) rfl rfl ?_
      refine TrL.op (ok_ext rfl (fun _ => rfl) rfl) rfl rfl ?_
      refine TrL.op (ok_ext rfl (fun _ => rfl) rfl) rfl rfl ?_
      refine TrL.op (ok_ext rfl (fun _ => rfl) rfl) rfl rfl ?_
      refine TrL.new (ok_alloc 15) rfl rfl rfl rfl ?_
      refine TrL.stB rfl rfl rfl rfl ?_
      refine TrL.op (ok_assign rfl (fun _ => rfl)) rfl rfl ?_
      refine TrL.op (ok_assign rfl (fun _ => rfl)) rfl rfl ?_
      refine TrL.fin ?_
      refine End.nxt ?_
      refine Tr.seq ?_
      refine Tr.seq ?_
      refine Tr.rg ?_
      refine TrL.op (ok_move rfl (fun _ => rfl)) rfl rfl ?_
      refine TrL.op (ok_neq rfl (fun _ => rfl) rfl (fun _ => rfl)) rfl rfl ?_
      refine TrL.op (ok_move rfl (fun _ => rfl)) rfl rfl ?_
      refine TrL.gd rfl rfl rfl (ok_move rfl (fun _ => rfl)) rfl rfl ?_
      refine TrL.gd rfl rfl rfl (ok_neq rfl id rfl (fun _ => rfl)) rfl rfl ?_
      refine TrL.op (ok_or rfl (fun _ => rfl) rfl (fun hp h => gdF2 ((fun _ => rfl) hp) h)) rfl rfl ?_
      refine TrL.op (ok_move rfl (fun _ => rfl)) rfl rfl ?_
      refine TrL.gd rfl rfl rfl (ok_move rfl (fun _ => rfl)) rfl rfl ?_
      refine TrL.gd rfl rfl rfl (ok_neq rfl id rfl (fun _ => rfl)) rfl rfl ?_
      refine TrL.op (ok_or rfl (fun _ => rfl) rfl (fun hp h => gdF2 ((fun _ => rfl) hp) h)) rfl rfl ?_
      refine TrL.op (ok_move rfl (fun _ => rfl)) rfl rfl ?_
      refine TrL.gd rfl rfl rfl (ok_ldBS rfl (fun _ => rfl)) rfl rfl ?_
      refine TrL.gd rfl rfl rfl (ok_ldBS rfl (fun _ => rfl)) rfl rfl ?_
      refine TrL.gd rfl rfl rfl (ok_call (fun hp => ct_rSame _ _) (.s rfl id rfl <| .s rfl id rfl <| .nil)) rfl rfl ?_
      refine TrL.gd rfl rfl rfl (ok_not rfl id) rfl rfl ?_
      refine TrL.op (ok_or rfl (fun _ => rfl) rfl (fun hp h => gdF2 ((fun _ => rfl) hp) h)) rfl rfl ?_
      refine TrL.op (ok_move rfl (fun _ => rfl)) rfl rfl ?_
      refine TrL.gd rfl rfl rfl (ok_ldBS rfl (fun _ => rfl)) rfl rfl ?_
      refine TrL.gd rfl rfl rfl (ok_ldBS rfl (fun _ => rfl)) rfl rfl ?_
      refine TrL.gd rfl rfl rfl (ok_move rfl (fun _ => rfl)) rfl rfl ?_
      refine TrL.gd rfl rfl rfl (ok_call (fun hp => ct_oCheckIsomorphism _ _ _) (.s rfl id rfl <| .s rfl id rfl <| .a rfl id <| .nil)) rfl rfl ?_
      refine TrL.gd rfl rfl rfl (ok_neq rfl id rfl (fun _ => rfl)) rfl rfl ?_
      refine TrL.op (ok_or rfl (fun _ => rfl) rfl (fun hp h => gdF2 ((fun _ => rfl) hp) h)) rfl rfl ?_
      refine TrL.fin ?_
      refine End.nxt ?_
      refine Tr.cnd rfl ?_ ?_
      · intro h10
        simp [ea, eb, ec, hl, hcm] at h10
      · intro h10
        refine Tr.skip ?_
        refine End.nxt ?_
        refine Tr.seq ?_
        refine Tr.rg ?_
        refine TrL.op (ok_ldBS rfl (fun _ => rfl)) rfl rfl ?_
        refine TrL.op (ok_call (fun hp => ct_oStratum _) (.s rfl (fun _ => rfl) rfl <| .nil)) rfl rfl ?_
        refine TrL.op (ok_move rfl (fun _ => rfl)) rfl rfl ?_
        refine TrL.op (ok_ext rfl (fun _ => rfl) rfl) rfl rfl ?_
        refine TrL.op (ok_ext rfl (fun _ => rfl) rfl) rfl rfl ?_
        refine TrL.op (ok_assign rfl (fun _ => rfl)) rfl rfl ?_
        refine TrL.op (ok_assign rfl (fun _ => rfl)) rfl rfl ?_
        refine TrL.fin ?_
        refine End.nxt ?_
        refine Tr.seq ?_
        refine Tr.rg ?_
        refine TrL.op (ok_ldBS rfl (fun _ => rfl)) rfl rfl ?_
        refine TrL.op (ok_call (fun hp => ct_oStratum _) (.s rfl (fun _ => rfl) rfl <| .nil)) rfl rfl ?_
        refine TrL.op (ok_move rfl (fun _ => rfl)) rfl rfl ?_
        refine TrL.op (ok_ext rfl (fun _ => rfl) rfl) rfl rfl ?_
        refine TrL.op (ok_ext rfl (fun _ => rfl) rfl) rfl rfl ?_
        refine TrL.op (ok_assign rfl (fun _ => rfl)) rfl rfl ?_
        refine TrL.op (ok_assign rfl (fun _ => rfl)) rfl rfl ?_
        refine TrL.fin ?_
        refine End.nxt ?_
        refine Tr.seq ?_
        refine Tr.rg ?_
        refine TrL.op (ok_ldBS rfl (fun _ => rfl)) rfl rfl ?_
        refine TrL.op (ok_call (fun hp => ct_oGenus _) (.s rfl (fun _ => rfl) rfl <| .nil)) rfl rfl ?_
        refine TrL.op (ok_move rfl (fun _ => rfl)) rfl rfl ?_
        refine TrL.op (ok_ext rfl (fun _ => rfl) rfl) rfl rfl ?_
        refine TrL.op (ok_ext rfl (fun _ => rfl) rfl) rfl rfl ?_
        refine TrL.op (ok_assign rfl (fun _ => rfl)) rfl rfl ?_
        refine TrL.op (ok_assign rfl (fun _ => rfl)) rfl rfl ?_
        refine TrL.fin ?_
        refine End.nxt ?_
        refine Tr.seq ?_
        refine Tr.rg ?_
        refine TrL.op (ok_ldBS rfl (fun _ => rfl)) rfl rfl ?_
        refine TrL.op (ok_call (fun hp => ct_oGenus _) (.s rfl (fun _ => rfl) rfl <| .nil)) rfl rfl ?_
        refine TrL.op (ok_move rfl (fun _ => rfl)) rfl rfl ?_
        refine TrL.op (ok_ext rfl (fun _ => rfl) rfl) rfl rfl ?_
        refine TrL.op (ok_ext rfl (fun _ => rfl) rfl) rfl rfl ?_
        refine TrL.op (ok_assign rfl (fun _ => rfl)) rfl rfl ?_
        refine TrL.op (ok_assign rfl (fun _ => rfl)) rfl rfl ?_
        refine TrL.fin ?_
        refine End.nxt ?_
        refine Tr.seq ?_
        refine Tr.rg ?_
        refine TrL.op (ok_ldBS rfl (fun _ => rfl)) rfl rfl ?_
        refine TrL.op (ok_call (fun hp => ct_oPeriods _) (.s rfl (fun _ => rfl) rfl <| .nil)) rfl rfl ?_
        refine TrL.op (ok_move rfl (fun _ => rfl)) rfl rfl ?_
        refine TrL.op (ok_ext rfl (fun _ => rfl) rfl) rfl rfl ?_
        refine TrL.op (ok_ext rfl (fun _ => rfl) rfl) rfl rfl ?_
        refine TrL.new (ok_alloc 26) rfl rfl rfl rfl ?_
        refine TrL.stB rfl rfl rfl rfl ?_
        refine TrL.op (ok_assign rfl (fun _ => rfl)) rfl rfl ?_
        refine TrL.fin ?_
        refine End.nxt ?_
        refine Tr.seq ?_
        refine Tr.rg ?_
        refine TrL.op (ok_ldBS rfl (fun _ => rfl)) rfl rfl ?_
        refine TrL.op (ok_call (fun hp => ct_oPeriods _) (.s rfl (fun _ => rfl) rfl <| .nil)) rfl rfl ?_
        refine TrL.op (ok_move rfl (fun _ => rfl)) rfl rfl ?_
        refine TrL.op (ok_ext rfl (fun _ => rfl) rfl) rfl rfl ?_
        refine TrL.op (ok_ext rfl (fun _ => rfl) rfl) rfl rfl ?_
        refine TrL.new (ok_alloc 28) rfl rfl rfl rfl ?_
        refine TrL.stB rfl rfl rfl rfl ?_
        refine TrL.op (ok_assign rfl (fun _ => rfl)) rfl rfl ?_
        refine TrL.fin ?_
        refine End.nxt ?_
        refine Tr.seq ?_
        refine Tr.seq ?_
        refine Tr.rg ?_
        refine TrL.op (ok_move rfl (fun _ => rfl)) rfl rfl ?_
        refine TrL.op (ok_move rfl (fun _ => rfl)) rfl rfl ?_
        refine TrL.op (ok_add rfl (fun _ => rfl) rfl (fun _ => rfl) (fun _ => by omega)) rfl rfl ?_
        refine TrL.op (ok_move rfl (fun _ => rfl)) rfl rfl ?_
        refine TrL.op (ok_add rfl (fun _ => rfl) rfl (fun _ => rfl) (fun _ => by omega)) rfl rfl ?_
        refine TrL.op (ok_move rfl (fun _ => rfl)) rfl rfl ?_
        refine TrL.op (ok_add rfl (fun _ => rfl) rfl (fun _ => rfl) (fun _ => by omega)) rfl rfl ?_
        refine TrL.op (ok_move rfl (fun _ => rfl)) rfl rfl ?_
        refine TrL.op (ok_add rfl (fun _ => rfl) rfl (fun _ => rfl) (fun _ => by omega)) rfl rfl ?_
        refine TrL.op (ok_move rfl (fun _ => rfl)) rfl rfl ?_
        refine TrL.op (ok_add rfl (fun _ => rfl) rfl (fun _ => rfl) (fun _ => by omega)) rfl rfl ?_
        refine TrL.op (ok_neq rfl (fun _ => rfl) rfl (fun _ => rfl)) rfl rfl ?_
        refine TrL.op (ok_move rfl (fun _ => rfl)) rfl rfl ?_
        refine TrL.gd rfl rfl rfl (ok_move rfl (fun _ => rfl)) rfl rfl ?_
        refine TrL.gd rfl rfl rfl (ok_move rfl (fun _ => rfl)) rfl rfl ?_
        refine TrL.gd rfl rfl rfl (ok_call (fun hp => ct_Ints _ _) (.a rfl id <| .a rfl id <| .nil)) rfl rfl ?_
        refine TrL.gd rfl rfl rfl (ok_not rfl id) rfl rfl ?_
        refine TrL.op (ok_or rfl (fun _ => rfl) rfl (fun hp h => gdF2 ((fun _ => rfl) hp) h)) rfl rfl ?_
        refine TrL.op (ok_move rfl (fun _ => rfl)) rfl rfl ?_
        refine TrL.gd rfl rfl rfl (ok_move rfl (fun _ => rfl)) rfl rfl ?_
        refine TrL.gd rfl rfl rfl (ok_move rfl (fun _ => rfl)) rfl rfl ?_
        refine TrL.gd rfl rfl rfl (ok_neq rfl id rfl id) rfl rfl ?_
        refine TrL.op (ok_or rfl (fun _ => rfl) rfl (fun hp h => gdF2 ((fun _ => rfl) hp) h)) rfl rfl ?_
        refine TrL.op (ok_move rfl (fun _ => rfl)) rfl rfl ?_
        refine TrL.gd rfl rfl rfl (ok_ldBS rfl (fun _ => rfl)) rfl rfl ?_
        refine TrL.gd rfl rfl rfl (ok_ldBS rfl (fun _ => rfl)) rfl rfl ?_
        refine TrL.gd rfl rfl rfl (ok_neqInts (n := 3) rfl id rfl id rfl (fun _ => by rw [if_pos ea, if_pos ec, hpe])) rfl rfl ?_
        refine TrL.op (ok_or rfl (fun _ => rfl) rfl (fun hp h => gdF2 ((fun _ => rfl) hp) h)) rfl rfl ?_
        refine TrL.fin ?_
        refine End.nxt ?_
        refine Tr.cnd rfl ?_ ?_
        · intro h18
          simp [ea, ec, hst, hge] at h18
        · intro h18
          refine Tr.skip ?_
          refine End.nxt ?_
          refine Tr.seq ?_
          refine Tr.rg ?_
          refine TrL.op (ok_ldBS rfl (fun _ => rfl)) rfl rfl ?_
          refine TrL.op (ok_ldBS rfl (fun _ => rfl)) rfl rfl ?_
          refine TrL.op (ok_call (fun hp => ct_oIso _ _) (.s rfl (fun _ => rfl) rfl <| .s rfl (fun _ => rfl) rfl <| .nil)) rfl rfl ?_
          refine TrL.op (ok_move rfl (fun _ => rfl)) rfl rfl ?_
          refine TrL.op (ok_ext rfl (fun _ => rfl) rfl) rfl rfl ?_
          refine TrL.op (ok_ext rfl (fun _ => rfl) rfl) rfl rfl ?_
          refine TrL.op (ok_assign rfl (fun _ => rfl)) rfl rfl ?_
          refine TrL.op (ok_assign rfl (fun _ => rfl)) rfl rfl ?_
          refine TrL.fin ?_
          refine End.nxt ?_
          refine Tr.seq ?_
          refine Tr.seq ?_
          refine Tr.rg ?_
          refine TrL.op (ok_ldBS rfl (fun _ => rfl)) rfl rfl ?_
          refine TrL.op (ok_ldBS rfl (fun _ => rfl)) rfl rfl ?_
          refine TrL.op (ok_call (fun hp => ct_rSame _ _) (.s rfl (fun _ => rfl) rfl <| .s rfl (fun _ => rfl) rfl <| .nil)) rfl rfl ?_
          refine TrL.op (ok_not rfl (fun _ => rfl)) rfl rfl ?_
          refine TrL.fin ?_
          refine End.nxt ?_
          refine Tr.cnd rfl ?_ ?_
          · intro h21
            simp only [if_pos ea, if_pos eb, Bool.not_eq_true', decide_eq_false_iff_not] at h21
            have hno := iso_no vc cc vb cb (by rw [← hl]; exact h21)
            refine Tr.seq ?_
            refine Tr.rg ?_
            refine TrL.op (ok_move rfl (fun _ => rfl)) rfl rfl ?_
            refine TrL.op (ok_eql rfl (fun _ => rfl) rfl (fun _ => rfl)) rfl rfl ?_
            refine TrL.op (ok_move rfl (fun _ => rfl)) rfl rfl ?_
            refine TrL.gd rfl rfl rfl (ok_move rfl (fun _ => rfl)) rfl rfl ?_
            refine TrL.gd rfl rfl rfl (ok_lenJ rfl id) rfl rfl ?_
            refine TrL.gd rfl rfl rfl (ok_eql rfl id rfl (fun _ => rfl)) rfl rfl ?_
            refine TrL.op (ok_and rfl (fun _ => rfl) rfl (fun hp h => gdT2 ((fun _ => rfl) hp) h)) rfl rfl ?_
            refine TrL.op (ok_assign rfl (fun _ => rfl)) rfl rfl ?_
            refine TrL.fin ?_
            refine End.nxt ?_
            refine Tr.ret ?_
            refine Rts.thn ?_
            exact Rts.res1 (fn := Try.f3) rfl (.b rfl (by simp [hno.1, hno.2]) <| .nil)
          · intro h21
            simp only [if_pos ea, if_pos eb, Bool.not_eq_false', decide_eq_true_eq] at h21
            have hyes := iso_yes vc cc vb cb (by rw [← hl]; exact h21)
            refine Tr.skip ?_
            refine End.nxt ?_
            refine Tr.seq ?_
            refine Tr.rg ?_
            refine TrL.op (ok_move rfl (fun _ => rfl)) rfl rfl ?_
            refine TrL.op (ok_eql rfl (fun _ => rfl) rfl (fun _ => rfl)) rfl rfl ?_
            refine TrL.op (ok_move rfl (fun _ => rfl)) rfl rfl ?_
            refine TrL.gd rfl rfl rfl (ok_ldBS rfl (fun _ => rfl)) rfl rfl ?_
            refine TrL.gd rfl rfl rfl (ok_ldBS rfl (fun _ => rfl)) rfl rfl ?_
            refine TrL.gd rfl rfl rfl (ok_move rfl (fun _ => rfl)) rfl rfl ?_
            refine TrL.gd rfl rfl rfl (ok_call (fun hp => ct_oCheckIsomorphism _ _ _) (.s rfl id rfl <| .s rfl id rfl <| .a rfl id <| .nil)) rfl rfl ?_
            refine TrL.gd rfl rfl rfl (ok_eql rfl id rfl (fun _ => rfl)) rfl rfl ?_
            refine TrL.op (ok_and rfl (fun _ => rfl) rfl (fun hp h => gdT2 ((fun _ => rfl) hp) h)) rfl rfl ?_
            refine TrL.op (ok_assign rfl (fun _ => rfl)) rfl rfl ?_
            refine TrL.fin ?_
            refine End.nxt ?_
            refine Tr.ret ?_
            exact Rts.res1 (fn := Try.f3) rfl (.b rfl (by simp [hyes.1, hyes.2]) <| .nil)

end Go.Fl

/- THE LAW OrigamiRenumbered HOLDS FOR EVERY INPUT: whatever the arguments, the call returns true, and each argument reads behind it as before. Conditions: those of the given row (its listed variables as the program lays them). -/
namespace Go.Proofs.Ytmfklhkjmhjllaa
open Go Go.Fl Go.RowKit Go.ChangeShapes Go.WideShapes Go.ChangeAt

theorem rdt22 : RdT Try.prog 22 (eL eI) (ListP (okI .i64)) := RdT.slice RdT.int rfl rfl rfl
theorem rdt24t : RdT Try.prog 24 (eP (eL eI) (eP (eL eI) eU)) (AndP (ListP (okI .i64)) (AndP (ListP (okI .i64)) UnitP)) := by
  refine RdT.struct (l := [_, _]) Try.underlying24 rfl (by kernel_rfl) ?_
  refine FldT.cons rdt22 (by rfl) (by rfl) (by rfl) ?_
  refine FldT.cons rdt22 (by rfl) (by rfl) (by rfl) ?_
  exact FldT.nil
theorem rdt24 : RdT Try.prog 24 eO (fun o : Ori => ListP (okI .i64) o.1 ∧ ListP (okI .i64) o.2) := RdT.conv rdt24t (fun x => ((x.1, x.2.1) : Ori)) (fun _ _ _ h => h) (fun _ h => ⟨h.1, h.2.1⟩)
theorem rdt25 : RdT Try.prog 25 (eL (eInt .u8)) (ListP (okI .u8)) := RdT.slice RdT.int rfl rfl rfl
theorem own : ownKnob Try.prog.godebug = none := by kernel_rfl
set_option maxRecDepth 100000 in
theorem lifted0 (os : Os) (started : os.Started) (H : Type) (enc : TypeId × Value → H) :
    ReturnsInHanded {} Try.checked os 3 .any (fun w args => (Rows.origamiRenumberedSpec.pre enc Try.prog Try.f3 [] false w args ∧ True) ∧ sizedMet enc Try.prog Try.f3 (OpenSpec.ofChange Rows.origamiRenumberedSpec) false w args)
      (Rows.origamiRenumberedSpec.post enc Try.prog Try.f3 false true false false) := by
  refine returnsInHanded_of_change_and (C := Try.checked) (X := fun _ _ => True) (fun _ _ _ _ h => h) own started (by kernel_rfl) Try.func3
    (ChangeSpec.witness_shaped (enc := enc) (C := Try.checked) (os := os) (X := fun _ _ => True) false (World.laidAll Try.prog os Rows.origamiRenumberedRow.laid) #[.agg #[.slice none 0 0, .slice none 0 0], .agg #[.slice none 0 0, .slice none 0 0], .slice none 0 0] 8 (World.laidAll_os _ _ _)
      (World.shaped_of_ZipB (by kernel_rfl) (by kernel_rfl)) (by kernel_rfl) (by kernel_rfl) (by kernel_rfl)
      trivial) ?_
  intro W base args ds gs before hval0 hW _ hwt hL _
  have hval : ∀ (j : Nat) t v, Try.f3.params[j]? = some t → args[j]? = some v → Value.okWide Try.prog W .any base t v := hval0
  have hpost : ∀ W', Below W.heap.size W W' → Rows.origamiRenumberedSpec.post enc Try.prog Try.f3 false true false false W args (.bool true) W' := fun W' hb => law_post (by kernel_rfl) (by kernel_rfl) (by kernel_rfl) hW (by kernel_rfl) rfl (fun hg => by
    subst hg
    obtain ⟨p, q, hA0, _⟩ := hW
    have hA : DataW.TrodAll enc Try.prog W 0 (fun _ => true) true Try.f3.params.toList args.toList ds p := hA0
    rw [Try.params3] at hA
    obtain ⟨v0, v1, v2, d0, d1, d2, _, _, _, rfl, rfl, _, _, _, _⟩ := trodAll_three hA
    rfl) rfl Try.underlying4 hb
  have hW0 := hW
  obtain ⟨p, q, hA0, hV, rfl, _, _⟩ := hW0
  have hA : DataW.TrodAll enc Try.prog W 0 (fun _ => true) true Try.f3.params.toList args.toList ds p := hA0
  rw [Try.params3] at hA hval hwt
  obtain ⟨rfl, rfl⟩ := trodVars_none hV
  obtain ⟨v0, v1, v2, d0, d1, d2, _, _, _, rfl, rfl, _, h0, h1, h2⟩ := trodAll_three hA
  have hwt' : (DataW.weightsEach Try.prog [24, 24, 25] [d0, d1, d2]).all (· ≤ reachBytes) = true := hwt
  have w0 := weights_cons hwt'
  have w1 := weights_cons w0.2
  have w2 := weights_cons w1.2
  obtain ⟨x0, k0, r0⟩ := RdT.val (by exact rdt24 : RdT Try.prog 24 eO (fun o : Ori => ListP (okI .i64) o.1 ∧ ListP (okI .i64) o.2)) rfl (hval 0 24 v0 rfl rfl) h0 w0.1
  obtain ⟨x1, k1, r1⟩ := RdT.val (by exact rdt24 : RdT Try.prog 24 eO (fun o : Ori => ListP (okI .i64) o.1 ∧ ListP (okI .i64) o.2)) rfl (hval 1 24 v1 rfl rfl) h1 w1.1
  obtain ⟨x2, k2, r2⟩ := RdT.val (by exact rdt25 : RdT Try.prog 25 (eL (eInt .u8)) (ListP (okI .u8))) rfl (hval 2 25 v2 rfl rfl) h2 w2.1
  refine Ct.law (vs := #[v0, v1, v2]) (ct_OrigamiRenumbered x0 x1 x2 (fun i hi => okU8 (r2.2 i hi))) ?_ fun W' hb => ⟨_, rfl, hpost W' hb⟩
  exact ⟨k0, k1, k2, trivial⟩
theorem lifted (os : Os) (started : os.Started) (H : Type) (enc : TypeId × Value → H) :
    ReturnsInHanded {} Try.checked os 3 .any (fun w args => Rows.origamiRenumberedSpec.pre enc Try.prog Try.f3 [] false w args ∧ sizedMet enc Try.prog Try.f3 (OpenSpec.ofChange Rows.origamiRenumberedSpec) false w args)
      (Rows.origamiRenumberedSpec.post enc Try.prog Try.f3 false true false false) := by
  have h := lifted0 os started H enc
  simp only [and_true] at h
  exact h
theorem holds : Rows.origamiRenumberedRow.holds Try.pinned (OpenSpec.ofChange Rows.origamiRenumberedSpec) :=
  OpenClaim.holds_of_wide 3 Try.f3 rfl rfl rfl rfl rfl rfl rfl ⟨rfl, rfl, rfl, rfl, rfl⟩ rfl rfl rfl rfl rfl (by kernel_rfl) Try.func3 (by kernel_rfl)
    (of_decide_eq_true (by kernel_rfl)) (by unfold Func.isWrapper; first | (rw [if_pos (by decide +kernel)]; kernel_rfl) | (rw [if_neg (by decide +kernel)]; exact ⟨rfl, rfl⟩))
    (fun os started H enc _ => lifted os started H enc)
theorem origamiRenumbered_holds : Rows.OrigamiRenumberedSaid := holds
end Go.Proofs.Ytmfklhkjmhjllaa
