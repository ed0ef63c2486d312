/- Laws on walking typed knowledge through code, and contracts. -/
import Derived.Test.YtjknpblmpcecjaaDoorM3
import Derived.Lib.SlTrimSet
import Derived.Shelf.Strings.SlTrimAscii
import Derived.Test.YtjknpblmpcecjaaDoorProg

/- Contracts of the reference of chapter 8. -/
namespace Go.Fl
open Go Go.Proofs


theorem corn0 {o : Ori} {n : Nat} : (List.range n).map (fun _ => (-1 : Int)) = cornTo (cycs (comm o) 0) n (cycs (comm o) 0).length := by
  show _ = List.replicate n (-1)
  rw [tab_rep]; rfl
theorem ct_rInv2 {n : Nat} (p : List Int) (h : Perm p n) (hn : n ≤ 1000 := by omega) : Ct Tryd.prog 47 [kRd (eL eI) p] (kRd (eL eI) (invL p)) := by
  have := ct_rInverse p (by have := h.ln; omega)
  rwa [invA_eq h.nd h.rg h.ln] at this

set_option maxRecDepth 100000 in
theorem ct_rOpen (o : Ori) (v : Valid o) : Ct Tryd.prog 15 [kRd eO o] (kRd eLand (landOf o)) := by
  have hv0 := v.pos
  have hv1 := v.len
  have hv2 := v.le
  have hl1 := invL_len o.1
  have hl2 := invL_len o.2
  have hl3 := vertL_len (o := o)
  have hl4 := vtx_le (o := o)
  have hiR := invA_eq v.nR v.rR rfl
  have hiU := invA_eq v.nU v.rU v.len
  refine Ct.mk Tryd.func15 rfl Tryd.ntmps15 rfl (fun w J => ?_)
  refine Tr.seq ?_
  refine Tr.rg ?_
  refine TrL.new (ok_box 1 rfl (fun _ => rfl) rfl) rfl rfl rfl rfl ?_
  refine TrL.new (ok_alloc 2) rfl rfl rfl rfl ?_
  refine TrL.fin ?_
  refine End.nxt ?_
  refine Tr.seq ?_
  refine Tr.draw 15 mixed (by kernel_rfl) ?_
  refine RunD.op (ok_fldO rfl (fun _ => rfl)) rfl rfl ?_
  refine RunD.op (ok_ldB rfl (fun _ => rfl) rfl) rfl rfl ?_
  refine RunD.op (ok_lenJ rfl (fun _ => rfl)) rfl rfl ?_
  refine RunD.op (ok_fldO rfl (fun _ => rfl)) rfl rfl ?_
  refine RunD.op (ok_ldB rfl (fun _ => rfl) rfl) rfl rfl ?_
  refine RunD.op (ok_fldO rfl (fun _ => rfl)) rfl rfl ?_
  refine RunD.op (ok_ldB rfl (fun _ => rfl) rfl) rfl rfl ?_
  refine RunD.op (ok_fldO rfl (fun _ => rfl)) rfl rfl ?_
  refine RunD.op (ok_ldB rfl (fun _ => rfl) rfl) rfl rfl ?_
  refine RunD.op (ok_call (fun hp => ct_rInv2 _ (v.pR)) (.a rfl (fun _ => rfl) <| .nil)) rfl rfl ?_
  refine RunD.op (ok_fldO rfl (fun _ => rfl)) rfl rfl ?_
  refine RunD.op (ok_ldB rfl (fun _ => rfl) rfl) rfl rfl ?_
  refine RunD.op (ok_call (fun hp => ct_rInv2 _ (v.pU)) (.a rfl (fun _ => rfl) <| .nil)) rfl rfl ?_
  refine RunD.op (ok_build (fun hp => .cons rfl rfl rfl <| .cons rfl rfl rfl <| .cons rfl rfl rfl <| .cons rfl rfl rfl <| .cons rfl rfl rfl <| .nil)) rfl rfl ?_
  refine RunD.new (ok_alloc 3) rfl rfl rfl rfl ?_
  refine RunD.z ?_
  refine TrL.stB rfl rfl rfl rfl ?_
  refine TrL.fin ?_
  refine End.nxt ?_
  refine Tr.seq ?_
  refine Tr.rg ?_
  refine TrL.op (ok_fldO rfl (fun _ => rfl)) rfl rfl ?_
  refine TrL.op (ok_ldB rfl (fun _ => rfl) rfl) rfl rfl ?_
  refine TrL.new (ok_makeN eI 23 rfl (fun _ => rfl) rfl (fun _ => rfl) rfl rfl rfl (fun _ => by omega)) rfl rfl rfl rfl ?_
  refine TrL.op (ok_fldO rfl (fun _ => rfl)) rfl rfl ?_
  refine TrL.stB rfl rfl rfl rfl ?_
  refine TrL.fin ?_
  refine End.nxt ?_
  refine Tr.seq ?_
  refine Tr.seq ?_
  refine Tr.rg ?_
  refine TrL.op (ok_assign rfl (fun _ => rfl)) rfl rfl ?_
  refine TrL.fin ?_
  refine End.nxt ?_
  refine Tr.for1 (σ := Nat) [⟨2, true, _, _⟩, ⟨3, true, _, _⟩] [⟨2, _, _⟩, ⟨3, _, _⟩] (fun k => [⟨4, true, [], kI (k : Int)⟩]) (fun k => [⟨23, [], cArr false 3 eI (fillTo 0 (fun _ => (-1 : Int)) o.1.length k) o.1.length⟩]) (fun k => k ≤ o.1.length) (fun k => k = o.1.length) (fun k => o.1.length - k) (0) (Nat.zero_le _) (Ent.mk (.i rfl (by first | rfl | omega | (simp; done) | (simp; omega) | assumption) <| .k rfl rfl <| .k rfl rfl <| .nil) (.a (by rw [← fillTo_zero]) (by first | rfl | omega | (simp; done) | (simp; omega) | assumption) <| .k rfl <| .k rfl <| .nil) rfl) ?_ ?_
  · intro k hR0
    refine Tr.norm (S' := [⟨4, true, _, _⟩, ⟨2, true, _, _⟩, ⟨3, true, _, _⟩]) (M' := [⟨23, _, _⟩, ⟨2, _, _⟩, ⟨3, _, _⟩]) rfl rfl ?_
    refine Tr.seq ?_
    refine Tr.seq ?_
    refine Tr.rg ?_
    refine TrL.op (ok_move rfl (fun _ => rfl)) rfl rfl ?_
    refine TrL.op (ok_fldO rfl (fun _ => rfl)) rfl rfl ?_
    refine TrL.op (ok_ldB rfl (fun _ => rfl) rfl) rfl rfl ?_
    refine TrL.op (ok_lss rfl (fun _ => rfl) rfl (fun _ => rfl)) rfl rfl ?_
    refine TrL.fin ?_
    refine End.nxt ?_
    refine Tr.cnd rfl ?_ ?_
    · intro h4
      replace h4 := of_decide_eq_true h4
      refine Tr.skip ?_
      refine End.nxt ?_
      refine Tr.seq ?_
      refine Tr.blk ?_
      refine Tr.rg ?_
      refine TrL.op (ok_fldO rfl (fun _ => rfl)) rfl rfl ?_
      refine TrL.op (ok_ldB rfl (fun _ => rfl) rfl) rfl rfl ?_
      refine TrL.op (ok_move rfl (fun _ => rfl)) rfl rfl ?_
      first | refine TrL.op (ok_idxEN rfl (fun _ => rfl) rfl (fun _ => rfl) (fun _ => by omega)) rfl rfl ?_ | refine TrL.op (ok_idxE rfl (fun _ => rfl) rfl (fun _ => rfl) (fun _ => by omega)) rfl rfl ?_
      refine TrL.stE rfl rfl rfl rfl rfl ?_
      refine TrL.fin ?_
      refine End.blk ?_
      refine End.nxt ?_
      refine Tr.rg ?_
      refine TrL.op (ok_move rfl (fun _ => rfl)) rfl rfl ?_
      refine TrL.op (ok_add rfl (fun _ => rfl) rfl (fun _ => rfl) (fun _ => by omega)) rfl rfl ?_
      refine TrL.op (ok_assign rfl (fun _ => rfl)) rfl rfl ?_
      refine TrL.fin ?_
      exact End.lp (k + 1) (by first | rfl | omega | (simp; done) | (simp; omega) | assumption) (by omega) (Ent.mk (.i rfl (by first | rfl | omega | (simp; done) | (simp; omega) | assumption) <| .k rfl rfl <| .k rfl rfl <| .nil) (.a (by rw [← fillTo_succ]) (by first | rfl | omega | (simp; done) | (simp; omega) | assumption) <| .k rfl <| .k rfl <| .nil) rfl)
    · intro h4
      replace h4 := Int.not_lt.1 (of_decide_eq_false h4)
      refine Tr.exit ?_
      refine Exs.thn ?_
      refine Exs.thn ?_
      refine Exs.here ?_
      exact End.cut (k) (by omega) (Ent.mk (.i rfl (by first | rfl | omega | (simp; done) | (simp; omega) | assumption) <| .k rfl rfl <| .k rfl rfl <| .nil) (.a (by first | rfl | omega | (simp; done) | (simp; omega) | assumption) (by first | rfl | omega | (simp; done) | (simp; omega) | assumption) <| .k rfl <| .k rfl <| .nil) rfl)
  · rintro _ rfl
    refine End.norm (S' := [⟨4, true, _, _⟩, ⟨2, true, _, _⟩, ⟨3, true, _, _⟩]) (M' := [⟨23, _, _⟩, ⟨2, _, _⟩, ⟨3, _, _⟩]) rfl rfl ?_
    refine End.nxt ?_
    refine Tr.seq ?_
    refine Tr.seq ?_
    refine Tr.rg ?_
    refine TrL.op (ok_assign rfl (fun _ => rfl)) rfl rfl ?_
    refine TrL.fin ?_
    refine End.nxt ?_
    refine Tr.for1 (σ := Nat) [⟨2, true, _, _⟩, ⟨3, true, _, _⟩] [⟨2, _, _⟩] (fun k => [⟨5, true, [], kI (k : Int)⟩]) (fun k => [⟨23, [], cArr false 3 eI (cornTo (cycs (comm o) k) o.1.length (cycs (comm o) k).length) o.1.length⟩, ⟨3, [23], cBlk [kI (o.1.length : Int), kRd (eL eI) o.1, kRd (eL eI) o.2, kRd (eL eI) (invL o.1), kRd (eL eI) (invL o.2), kOsl 23 o.1.length, kI ((cycs (comm o) k).length : Int)]⟩]) (fun k => k ≤ o.1.length) (fun k => k = o.1.length) (fun k => o.1.length - k) (0) (Nat.zero_le _) (Ent.mk (.i rfl (by first | rfl | omega | (simp; done) | (simp; omega) | assumption) <| .k rfl rfl <| .k rfl rfl <| .nil) (.a (by rw [fillTo_all]; exact corn0) (by first | rfl | omega | (simp; done) | (simp; omega) | assumption) <| .k rfl <| .k rfl <| .nil) rfl) ?_ ?_
    · intro k hR1
      refine Tr.norm (S' := [⟨5, true, _, _⟩, ⟨2, true, _, _⟩, ⟨3, true, _, _⟩]) (M' := [⟨23, _, _⟩, ⟨3, _, _⟩, ⟨2, _, _⟩]) rfl rfl ?_
      have hci := cycs_length (p := comm o) (k := k)
      have P := v.pC
      have hcl := comm_len o
      have hgd := cycs_good (p := comm o) (k := k) (by rw [comm_len]; exact comm_rng v) (by omega)
      refine Tr.seq ?_
      refine Tr.seq ?_
      refine Tr.rg ?_
      refine TrL.op (ok_move rfl (fun _ => rfl)) rfl rfl ?_
      refine TrL.op (ok_fldO rfl (fun _ => rfl)) rfl rfl ?_
      refine TrL.op (ok_ldB rfl (fun _ => rfl) rfl) rfl rfl ?_
      refine TrL.op (ok_lss rfl (fun _ => rfl) rfl (fun _ => rfl)) rfl rfl ?_
      refine TrL.fin ?_
      refine End.nxt ?_
      refine Tr.cnd rfl ?_ ?_
      · intro h8
        replace h8 := of_decide_eq_true h8
        refine Tr.skip ?_
        refine End.nxt ?_
        refine Tr.seq ?_
        refine Tr.blk ?_
        refine Tr.seq ?_
        refine Tr.seq ?_
        refine Tr.rg ?_
        refine TrL.op (ok_fldO rfl (fun _ => rfl)) rfl rfl ?_
        refine TrL.op (ok_ldB rfl (fun _ => rfl) rfl) rfl rfl ?_
        refine TrL.op (ok_move rfl (fun _ => rfl)) rfl rfl ?_
        first | refine TrL.op (ok_idxEN rfl (fun _ => rfl) rfl (fun _ => rfl) (fun _ => by omega)) rfl rfl ?_ | refine TrL.op (ok_idxE rfl (fun _ => rfl) rfl (fun _ => rfl) (fun _ => by omega)) rfl rfl ?_
        refine TrL.op (ok_ldE rfl (fun _ => rfl) rfl rfl rfl) rfl rfl ?_
        refine TrL.op (ok_geq rfl (fun _ => rfl) rfl (fun _ => rfl)) rfl rfl ?_
        refine TrL.fin ?_
        refine End.nxt ?_
        refine Tr.cnd rfl ?_ ?_
        · intro h10
          replace h10 := of_decide_eq_true h10
          have hm : (k : Int) ∈ (cycs (comm o) k).flatten := Classical.byContradiction fun hh => by (have := (corn_neg (n := o.1.length) (fun y hy => (hgd.rng y hy).1) (x := (k : Int)) (by omega) (by omega)).2 hh; simp only [Int.toNat_natCast] at this; omega)
          refine Tr.exit ?_
          refine Exs.thn ?_
          refine Exs.here ?_
          refine End.nxt ?_
          refine Tr.rg ?_
          refine TrL.op (ok_move rfl (fun _ => rfl)) rfl rfl ?_
          refine TrL.op (ok_add rfl (fun _ => rfl) rfl (fun _ => rfl) (fun _ => by omega)) rfl rfl ?_
          refine TrL.op (ok_assign rfl (fun _ => rfl)) rfl rfl ?_
          refine TrL.fin ?_
          exact End.lp (k + 1) (by first | rfl | omega | (simp; done) | (simp; omega) | assumption) (by omega) (Ent.mk (.i rfl (by first | rfl | omega | (simp; done) | (simp; omega) | assumption) <| .k rfl rfl <| .k rfl rfl <| .nil) (.a (by rw [cycs_stop hm]) (by first | rfl | omega | (simp; done) | (simp; omega) | assumption) <| .e (by rw [cycs_stop hm]) rfl <| .k rfl <| .nil) rfl)
        · intro h10
          replace h10 := Int.not_le.1 (of_decide_eq_false h10)
          have hm : (k : Int) ∉ (cycs (comm o) k).flatten := (by (have := (corn_neg (n := o.1.length) (fun y hy => (hgd.rng y hy).1) (x := (k : Int)) (by omega) (by omega)).1; simp only [Int.toNat_natCast] at this; exact this (by omega)))
          refine Tr.skip ?_
          refine End.nxt ?_
          refine Tr.seq ?_
          refine Tr.seq ?_
          refine Tr.rg ?_
          refine TrL.op (ok_move rfl (fun _ => rfl)) rfl rfl ?_
          refine TrL.op (ok_assign rfl (fun _ => rfl)) rfl rfl ?_
          refine TrL.fin ?_
          refine End.nxt ?_
          refine Tr.for1 (σ := List Int × Int) [⟨2, true, _, _⟩, ⟨3, true, _, _⟩, ⟨5, true, _, _⟩] [⟨2, _, _⟩, ⟨3, _, _⟩] (fun (c, x) => [⟨6, true, [], kI x⟩]) (fun (c, x) => [⟨23, [], cArr false 3 eI (setC (cornTo (cycs (comm o) k) o.1.length (cycs (comm o) k).length) c (cycs (comm o) k).length) o.1.length⟩]) (fun (c, x) => Good (comm o).length ((cycs (comm o) k).flatten ++ c) ∧ 0 ≤ x ∧ x < (comm o).length ∧ c ++ walk (comm o) ((comm o).length - c.length) ((cycs (comm o) k).flatten ++ c) x = walk (comm o) (comm o).length (cycs (comm o) k).flatten k) (fun (c, x) => c = walk (comm o) (comm o).length (cycs (comm o) k).flatten k) (fun (c, x) => (comm o).length - c.length) (([], (k : Int))) ⟨by rw [List.append_nil]; exact hgd, by omega, by omega, by simp⟩ (Ent.mk (.i rfl (by first | rfl | omega | (simp; done) | (simp; omega) | assumption) <| .k rfl rfl <| .k rfl rfl <| .k rfl rfl <| .nil) (.a (by rfl) (by first | rfl | omega | (simp; done) | (simp; omega) | assumption) <| .k rfl <| .k rfl <| .nil) rfl) ?_ ?_
          · rintro ⟨c, x⟩ ⟨hg, h0, h1, hw⟩
            refine Tr.norm (S' := [⟨6, true, _, _⟩, ⟨2, true, _, _⟩, ⟨3, true, _, _⟩, ⟨5, true, _, _⟩]) (M' := [⟨23, _, _⟩, ⟨2, _, _⟩, ⟨3, _, _⟩]) rfl rfl ?_
            have hneg := corn_neg' (n := o.1.length) (fun y hy => (hg.rng y hy).1) h0 (by omega)
            refine Tr.seq ?_
            refine Tr.seq ?_
            refine Tr.rg ?_
            refine TrL.op (ok_fldO rfl (fun _ => rfl)) rfl rfl ?_
            refine TrL.op (ok_ldB rfl (fun _ => rfl) rfl) rfl rfl ?_
            refine TrL.op (ok_move rfl (fun _ => rfl)) rfl rfl ?_
            first | refine TrL.op (ok_idxEN rfl (fun _ => rfl) rfl (fun _ => rfl) (fun _ => by omega)) rfl rfl ?_ | refine TrL.op (ok_idxE rfl (fun _ => rfl) rfl (fun _ => rfl) (fun _ => by omega)) rfl rfl ?_
            refine TrL.op (ok_ldE rfl (fun _ => rfl) rfl rfl rfl) rfl rfl ?_
            refine TrL.op (ok_lss rfl (fun _ => rfl) rfl (fun _ => rfl)) rfl rfl ?_
            refine TrL.fin ?_
            refine End.nxt ?_
            refine Tr.cnd rfl ?_ ?_
            · intro h12
              replace h12 := of_decide_eq_true h12
              have hx := hneg.1 (by omega)
              have hroom := walk_room hg h0 h1 hx
              refine Tr.skip ?_
              refine End.nxt ?_
              refine Tr.seq ?_
              refine Tr.blk ?_
              refine Tr.rg ?_
              refine TrL.op (ok_fldO rfl (fun _ => rfl)) rfl rfl ?_
              refine TrL.op (ok_ldB rfl (fun _ => rfl) rfl) rfl rfl ?_
              refine TrL.op (ok_move rfl (fun _ => rfl)) rfl rfl ?_
              refine TrL.op (ok_fldO rfl (fun _ => rfl)) rfl rfl ?_
              refine TrL.op (ok_ldB rfl (fun _ => rfl) rfl) rfl rfl ?_
              first | refine TrL.op (ok_idxEN rfl (fun _ => rfl) rfl (fun _ => rfl) (fun _ => by omega)) rfl rfl ?_ | refine TrL.op (ok_idxE rfl (fun _ => rfl) rfl (fun _ => rfl) (fun _ => by omega)) rfl rfl ?_
              refine TrL.stE rfl rfl rfl rfl rfl ?_
              refine TrL.fin ?_
              refine End.blk ?_
              refine End.nxt ?_
              refine Tr.rg ?_
              refine TrL.op (ok_ldBS rfl (fun _ => rfl)) rfl rfl ?_
              refine TrL.op (ok_move rfl (fun _ => rfl)) rfl rfl ?_
              refine TrL.op (ok_call (fun hp => ct_rTurn _ _ v (by omega) (by omega)) (.s rfl (fun _ => rfl) rfl <| .a rfl (fun _ => rfl) <| .nil)) rfl rfl ?_
              refine TrL.op (ok_assign rfl (fun _ => rfl)) rfl rfl ?_
              refine TrL.fin ?_
              exact End.lp ((c ++ [x], nth (comm o) x.toNat)) ⟨by rw [← List.append_assoc]; exact hg.snoc h0 h1 hx, ((comm_rng v).at hcl h0 (by omega)).1, by have := ((comm_rng v).at hcl h0 (by omega)).2; omega, walk_next hg h0 h1 hx hw⟩ (show (comm o).length - (c ++ [x]).length < (comm o).length - c.length by rw [List.length_append, List.length_singleton]; omega) (Ent.mk (.i rfl (comm_at h0 (by omega)).symm <| .k rfl rfl <| .k rfl rfl <| .k rfl rfl <| .nil) (.a (by rw [setC_snoc]) (by first | rfl | omega | (simp; done) | (simp; omega) | assumption) <| .k rfl <| .k rfl <| .nil) rfl)
            · intro h12
              replace h12 := Int.not_lt.1 (of_decide_eq_false h12)
              have hx := Classical.not_not.1 (fun hh => absurd (hneg.2 hh) (by omega))
              refine Tr.exit ?_
              refine Exs.thn ?_
              refine Exs.thn ?_
              refine Exs.here ?_
              exact End.cut ((c, x)) (walk_end hx hw) (Ent.mk (.i rfl (by first | rfl | omega | (simp; done) | (simp; omega) | assumption) <| .k rfl rfl <| .k rfl rfl <| .k rfl rfl <| .nil) (.a (by first | rfl | omega | (simp; done) | (simp; omega) | assumption) (by first | rfl | omega | (simp; done) | (simp; omega) | assumption) <| .k rfl <| .k rfl <| .nil) rfl)
          · rintro ⟨c, x⟩ hc
            refine End.norm (S' := [⟨6, true, _, _⟩, ⟨2, true, _, _⟩, ⟨3, true, _, _⟩, ⟨5, true, _, _⟩]) (M' := [⟨23, _, _⟩, ⟨2, _, _⟩, ⟨3, _, _⟩]) rfl rfl ?_
            have hst := corn_step hcl (by omega) hc hm
            refine End.nxt ?_
            refine Tr.rg ?_
            refine TrL.op (ok_fldO rfl (fun _ => rfl)) rfl rfl ?_
            refine TrL.op (ok_ldB rfl (fun _ => rfl) rfl) rfl rfl ?_
            refine TrL.op (ok_add rfl (fun _ => rfl) rfl (fun _ => rfl) (fun _ => by omega)) rfl rfl ?_
            refine TrL.op (ok_fldO rfl (fun _ => rfl)) rfl rfl ?_
            refine TrL.stB rfl rfl rfl rfl ?_
            refine TrL.fin ?_
            refine End.blk ?_
            refine End.nxt ?_
            refine Tr.rg ?_
            refine TrL.op (ok_move rfl (fun _ => rfl)) rfl rfl ?_
            refine TrL.op (ok_add rfl (fun _ => rfl) rfl (fun _ => rfl) (fun _ => by omega)) rfl rfl ?_
            refine TrL.op (ok_assign rfl (fun _ => rfl)) rfl rfl ?_
            refine TrL.fin ?_
            exact End.lp (k + 1) (by first | rfl | omega | (simp; done) | (simp; omega) | assumption) (by omega) (Ent.mk (.i rfl (by first | rfl | omega | (simp; done) | (simp; omega) | assumption) <| .k rfl rfl <| .k rfl rfl <| .nil) (.a hst.2 (by first | rfl | omega | (simp; done) | (simp; omega) | assumption) <| .e (by rw [hst.1, List.length_append]; rfl) rfl <| .k rfl <| .nil) rfl)
      · intro h8
        replace h8 := Int.not_lt.1 (of_decide_eq_false h8)
        refine Tr.exit ?_
        refine Exs.thn ?_
        refine Exs.thn ?_
        refine Exs.here ?_
        exact End.cut (k) (by omega) (Ent.mk (.i rfl (by first | rfl | omega | (simp; done) | (simp; omega) | assumption) <| .k rfl rfl <| .k rfl rfl <| .nil) (.a (by first | rfl | omega | (simp; done) | (simp; omega) | assumption) (by first | rfl | omega | (simp; done) | (simp; omega) | assumption) <| .k rfl <| .k rfl <| .nil) rfl)
    · rintro _ rfl
      refine End.norm (S' := [⟨5, true, _, _⟩, ⟨2, true, _, _⟩, ⟨3, true, _, _⟩]) (M' := [⟨23, _, _⟩, ⟨3, _, _⟩, ⟨2, _, _⟩]) rfl rfl ?_
      refine End.nxt ?_
      refine Tr.seq ?_
      refine Tr.rg ?_
      refine TrL.op (ok_ldBS rfl (fun _ => rfl)) rfl rfl ?_
      refine TrL.stB rfl rfl rfl rfl ?_
      refine TrL.fin ?_
      refine End.nxt ?_
      refine Tr.ent (S' := [⟨2, true, _, _⟩]) (M' := [⟨2, _, _⟩, ⟨23, _, _⟩]) (Ent.mk (.k rfl rfl <| .nil) (.k rfl <| .k rfl <| .nil) rfl) ?_
      refine Tr.frzC 23 2 (by simp only [lenMax]; omega) rfl rfl ?_
      refine Tr.ret ?_
      exact Rts.resC1 (fn := Tryd.f15) rfl rfl (aggRd rfl (landOf_eq v))

set_option maxRecDepth 100000 in
theorem ct_Mod (n m : Int) (hm : 0 < m) (h1 : m ≤ 4611686018427387904) : Ct Tryd.prog 24 [kI n, kI m] (kI (n % m)) := by
  have hr := tmod_lt (n := n) hm
  refine Ct.mk Tryd.func24 rfl Tryd.ntmps24 rfl (fun w J => ?_)
  refine Tr.seq ?_
  refine Tr.rg ?_
  refine TrL.op (ok_assign rfl (fun _ => rfl)) rfl rfl ?_
  refine TrL.fin ?_
  refine End.nxt ?_
  refine Tr.seq ?_
  refine Tr.rg ?_
  refine TrL.op (ok_move rfl (fun _ => rfl)) rfl rfl ?_
  refine TrL.op (ok_move rfl (fun _ => rfl)) rfl rfl ?_
  refine TrL.op (ok_rem rfl (fun _ => rfl) rfl (fun _ => rfl) (fun _ => by omega)) rfl rfl ?_
  refine TrL.op (ok_assign rfl (fun _ => rfl)) rfl rfl ?_
  refine TrL.fin ?_
  refine End.nxt ?_
  refine Tr.seq ?_
  refine Tr.seq ?_
  refine Tr.rg ?_
  refine TrL.op (ok_move rfl (fun _ => rfl)) rfl rfl ?_
  refine TrL.op (ok_lss rfl (fun _ => rfl) rfl (fun _ => rfl)) rfl rfl ?_
  refine TrL.fin ?_
  refine End.nxt ?_
  refine Tr.cnd rfl ?_ ?_
  · intro h2
    replace h2 := of_decide_eq_true h2
    refine Tr.rg ?_
    refine TrL.op (ok_move rfl (fun _ => rfl)) rfl rfl ?_
    refine TrL.op (ok_move rfl (fun _ => rfl)) rfl rfl ?_
    refine TrL.op (ok_add rfl (fun _ => rfl) rfl (fun _ => rfl) (fun _ => by omega)) rfl rfl ?_
    refine TrL.op (ok_assign rfl (fun _ => rfl)) rfl rfl ?_
    refine TrL.fin ?_
    refine End.nxt ?_
    refine Tr.seq ?_
    refine Tr.rg ?_
    refine TrL.op (ok_move rfl (fun _ => rfl)) rfl rfl ?_
    refine TrL.op (ok_assign rfl (fun _ => rfl)) rfl rfl ?_
    refine TrL.fin ?_
    refine End.nxt ?_
    refine Tr.ret ?_
    exact Rts.res1 (fn := Tryd.f24) rfl (.i rfl (tmod_neg hm h2) <| .nil)
  · intro h2
    replace h2 := Int.not_lt.1 (of_decide_eq_false h2)
    refine Tr.skip ?_
    refine End.nxt ?_
    refine Tr.seq ?_
    refine Tr.rg ?_
    refine TrL.op (ok_move rfl (fun _ => rfl)) rfl rfl ?_
    refine TrL.op (ok_assign rfl (fun _ => rfl)) rfl rfl ?_
    refine TrL.fin ?_
    refine End.nxt ?_
    refine Tr.ret ?_
    exact Rts.res1 (fn := Tryd.f24) rfl (.i rfl (tmod_pos hm (by omega)) <| .nil)

set_option maxRecDepth 100000 in
theorem ct_rfirst (l : List Int) (x : Int) (hx : x ∈ l) : Ct Tryd.prog 56 [kRd (eL eI) l, kI x] (kI (atL l x)) := by
  have hr := atL_rng hx
  have hn := nth_atL hx
  refine Ct.mk Tryd.func56 rfl Tryd.ntmps56 rfl (fun w J => ?_)
  refine Tr.fact (s := 0) rfl (fun _ _ h => lenB h) (fun hb => ?_)
  refine Tr.seq ?_
  refine Tr.rg ?_
  refine TrL.op (ok_assign rfl (fun _ => rfl)) rfl rfl ?_
  refine TrL.fin ?_
  refine End.nxt ?_
  refine Tr.seq ?_
  refine Tr.rg ?_
  refine TrL.op (ok_assign rfl (fun _ => rfl)) rfl rfl ?_
  refine TrL.fin ?_
  refine End.nxt ?_
  refine Tr.for (σ := Nat) [⟨0, true, _, _⟩, ⟨1, true, _, _⟩] [] (fun k => [⟨5, true, [], kI (k : Int)⟩]) (fun k => []) (fun k => (k : Int) ≤ atL l x ∧ ∀ i, i < k → nth l i ≠ x) (fun k => (k : Int) = atL l x) (fun k => l.length - k) (0) ⟨by omega, fun i h => absurd h (by omega)⟩ (Ent.mk (.i rfl (by first | rfl | omega | (simp; done) | (simp; omega) | assumption) <| .k rfl rfl <| .k rfl rfl <| .nil) (.nil) rfl) ?_ ?_
  · rintro k ⟨hk, hR⟩
    refine Tr.norm (S' := [⟨5, true, _, _⟩, ⟨0, true, _, _⟩, ⟨1, true, _, _⟩]) (M' := []) rfl rfl ?_
    refine Tr.seq ?_
    refine Tr.seq ?_
    refine Tr.rg ?_
    refine TrL.op (ok_move rfl (fun _ => rfl)) rfl rfl ?_
    refine TrL.op (ok_move rfl (fun _ => rfl)) rfl rfl ?_
    first | refine TrL.op (ok_idxN rfl (fun _ => rfl) rfl (fun _ => rfl) rfl (fun _ => by omega)) rfl rfl ?_ | refine TrL.op (ok_idxP rfl (fun _ => rfl) rfl (fun _ => rfl) rfl (fun _ => by omega)) rfl rfl ?_
    refine TrL.op (ok_ldP rfl (fun _ => rfl) rfl) rfl rfl ?_
    refine TrL.op (ok_move rfl (fun _ => rfl)) rfl rfl ?_
    refine TrL.op (ok_neq rfl (fun _ => rfl) rfl (fun _ => rfl)) rfl rfl ?_
    refine TrL.fin ?_
    refine End.nxt ?_
    refine Tr.cnd rfl ?_ ?_
    · intro h2
      replace h2 := of_decide_eq_true h2
      refine Tr.skip ?_
      refine End.nxt ?_
      refine Tr.blk ?_
      refine Tr.rg ?_
      refine TrL.op (ok_move rfl (fun _ => rfl)) rfl rfl ?_
      refine TrL.op (ok_add rfl (fun _ => rfl) rfl (fun _ => rfl) (fun _ => by omega)) rfl rfl ?_
      refine TrL.op (ok_assign rfl (fun _ => rfl)) rfl rfl ?_
      refine TrL.fin ?_
      refine End.blk ?_
      exact End.lp (k + 1) ⟨by (rcases Int.lt_or_eq_of_le hk with h | h; omega; exact absurd (by rw [← hn, ← h]; rfl) h2), all_succ hR h2⟩ (by omega) (Ent.mk (.i rfl (by first | rfl | omega | (simp; done) | (simp; omega) | assumption) <| .k rfl rfl <| .k rfl rfl <| .nil) (.nil) rfl)
    · intro h2
      replace h2 := Classical.not_not.1 (of_decide_eq_false h2)
      refine Tr.exit ?_
      refine Exs.thn ?_
      refine Exs.thn ?_
      refine Exs.here ?_
      exact End.cut (k) (atL_at (by omega) hR h2) (Ent.mk (.i rfl (by first | rfl | omega | (simp; done) | (simp; omega) | assumption) <| .k rfl rfl <| .k rfl rfl <| .nil) (.nil) rfl)
  · intro k hE
    refine Tr.norm (S' := [⟨5, true, _, _⟩, ⟨0, true, _, _⟩, ⟨1, true, _, _⟩]) (M' := []) rfl rfl ?_
    refine Tr.seq ?_
    refine Tr.rg ?_
    refine TrL.op (ok_move rfl (fun _ => rfl)) rfl rfl ?_
    refine TrL.op (ok_assign rfl (fun _ => rfl)) rfl rfl ?_
    refine TrL.fin ?_
    refine End.nxt ?_
    refine Tr.ret ?_
    exact Rts.res1 (fn := Tryd.f56) rfl (.i rfl hE <| .nil)

set_option maxRecDepth 100000 in
theorem ct_rHolonomy (o : Ori) (c : List Int) (v : Valid o) (hc : c.length = 2 * o.1.length) : Ct Tryd.prog 17 [kRd eLand (landOf o), kRd (eL eI) c] (kTup [kI (holX o c), kI (holY o c)]) := by
  have hv0 := v.pos
  have hv1 := v.len
  have hv2 := v.le
  have hl1 := invL_len o.1
  have hl2 := invL_len o.2
  have hl3 := vertL_len (o := o)
  have hl4 := vtx_le (o := o)
  refine Ct.mk Tryd.func17 rfl Tryd.ntmps17 rfl (fun w J => ?_)
  refine Tr.seq ?_
  refine Tr.rg ?_
  refine TrL.new (ok_box 2 rfl (fun _ => rfl) rfl) rfl rfl rfl rfl ?_
  refine TrL.op (ok_assign rfl (fun _ => rfl)) rfl rfl ?_
  refine TrL.op (ok_assign rfl (fun _ => rfl)) rfl rfl ?_
  refine TrL.fin ?_
  refine End.nxt ?_
  refine Tr.seq ?_
  refine Tr.rg ?_
  refine TrL.op (ok_assign rfl (fun _ => rfl)) rfl rfl ?_
  refine TrL.op (ok_assign rfl (fun _ => rfl)) rfl rfl ?_
  refine TrL.fin ?_
  refine End.nxt ?_
  refine Tr.seq ?_
  refine Tr.seq ?_
  refine Tr.rg ?_
  refine TrL.op (ok_assign rfl (fun _ => rfl)) rfl rfl ?_
  refine TrL.fin ?_
  refine End.nxt ?_
  refine Tr.for1 (σ := Nat) [⟨1, true, _, _⟩, ⟨2, true, _, _⟩] [⟨2, _, _⟩] (fun k => [⟨8, true, [], kI (k : Int)⟩, ⟨6, true, [], kI (W (sumTo (nth c) k))⟩, ⟨7, true, [], kI (W (sumTo (fun i => nth c ((o.1.length : Int) + i).toNat) k))⟩]) (fun k => []) (fun k => k ≤ o.1.length) (fun k => k = o.1.length) (fun k => o.1.length - k) (0) (Nat.zero_le _) (Ent.mk (.i rfl (by first | rfl | omega | (simp; done) | (simp; omega) | assumption) <| .i rfl (by first | rfl | omega | (simp; done) | (simp; omega) | assumption) <| .i rfl (by first | rfl | omega | (simp; done) | (simp; omega) | assumption) <| .k rfl rfl <| .k rfl rfl <| .nil) (.k rfl <| .nil) rfl) ?_ ?_
  · intro k hR0
    refine Tr.norm (S' := [⟨8, true, _, _⟩, ⟨6, true, _, _⟩, ⟨7, true, _, _⟩, ⟨1, true, _, _⟩, ⟨2, true, _, _⟩]) (M' := [⟨2, _, _⟩]) rfl rfl ?_
    refine Tr.seq ?_
    refine Tr.seq ?_
    refine Tr.rg ?_
    refine TrL.op (ok_move rfl (fun _ => rfl)) rfl rfl ?_
    refine TrL.op (ok_fldO rfl (fun _ => rfl)) rfl rfl ?_
    refine TrL.op (ok_ldB rfl (fun _ => rfl) rfl) rfl rfl ?_
    refine TrL.op (ok_lss rfl (fun _ => rfl) rfl (fun _ => rfl)) rfl rfl ?_
    refine TrL.fin ?_
    refine End.nxt ?_
    refine Tr.cnd rfl ?_ ?_
    · intro h3
      replace h3 := of_decide_eq_true h3
      refine Tr.skip ?_
      refine End.nxt ?_
      refine Tr.seq ?_
      refine Tr.blk ?_
      refine Tr.draw 16 mixed (by kernel_rfl) ?_
      refine RunD.op (ok_move rfl (fun _ => rfl)) rfl rfl ?_
      refine RunD.op (ok_move rfl (fun _ => rfl)) rfl rfl ?_
      refine RunD.op (ok_move rfl (fun _ => rfl)) rfl rfl ?_
      first | refine RunD.op (ok_idxN rfl (fun _ => rfl) rfl (fun _ => rfl) rfl (fun _ => by omega)) rfl rfl ?_ | refine RunD.op (ok_idxP rfl (fun _ => rfl) rfl (fun _ => rfl) rfl (fun _ => by omega)) rfl rfl ?_
      refine RunD.op (ok_ldP rfl (fun _ => rfl) rfl) rfl rfl ?_
      refine RunD.op (ok_addW rfl (fun _ => rfl) rfl (fun _ => rfl)) rfl rfl ?_
      refine RunD.op (ok_move rfl (fun _ => rfl)) rfl rfl ?_
      refine RunD.op (ok_move rfl (fun _ => rfl)) rfl rfl ?_
      refine RunD.op (ok_fldO rfl (fun _ => rfl)) rfl rfl ?_
      refine RunD.op (ok_ldB rfl (fun _ => rfl) rfl) rfl rfl ?_
      refine RunD.op (ok_move rfl (fun _ => rfl)) rfl rfl ?_
      refine RunD.op (ok_add rfl (fun _ => rfl) rfl (fun _ => rfl) (fun _ => by omega)) rfl rfl ?_
      first | refine RunD.op (ok_idxN rfl (fun _ => rfl) rfl (fun _ => rfl) rfl (fun _ => by omega)) rfl rfl ?_ | refine RunD.op (ok_idxP rfl (fun _ => rfl) rfl (fun _ => rfl) rfl (fun _ => by omega)) rfl rfl ?_
      refine RunD.op (ok_ldP rfl (fun _ => rfl) rfl) rfl rfl ?_
      refine RunD.op (ok_addW rfl (fun _ => rfl) rfl (fun _ => rfl)) rfl rfl ?_
      refine RunD.op (ok_assign rfl (fun _ => rfl)) rfl rfl ?_
      refine RunD.z ?_
      refine TrL.op (ok_assign rfl (fun _ => rfl)) rfl rfl ?_
      refine TrL.fin ?_
      refine End.blk ?_
      refine End.nxt ?_
      refine Tr.rg ?_
      refine TrL.op (ok_move rfl (fun _ => rfl)) rfl rfl ?_
      refine TrL.op (ok_add rfl (fun _ => rfl) rfl (fun _ => rfl) (fun _ => by omega)) rfl rfl ?_
      refine TrL.op (ok_assign rfl (fun _ => rfl)) rfl rfl ?_
      refine TrL.fin ?_
      exact End.lp (k + 1) (by first | rfl | omega | (simp; done) | (simp; omega) | assumption) (by omega) (Ent.mk (.i rfl (by first | rfl | omega | (simp; done) | (simp; omega) | assumption) <| .i rfl (W_add_l _ _) <| .i rfl (W_add_l _ _) <| .k rfl rfl <| .k rfl rfl <| .nil) (.k rfl <| .nil) rfl)
    · intro h3
      replace h3 := Int.not_lt.1 (of_decide_eq_false h3)
      refine Tr.exit ?_
      refine Exs.thn ?_
      refine Exs.thn ?_
      refine Exs.here ?_
      exact End.cut (k) (by omega) (Ent.mk (.i rfl (by first | rfl | omega | (simp; done) | (simp; omega) | assumption) <| .i rfl (by first | rfl | omega | (simp; done) | (simp; omega) | assumption) <| .i rfl (by first | rfl | omega | (simp; done) | (simp; omega) | assumption) <| .k rfl rfl <| .k rfl rfl <| .nil) (.k rfl <| .nil) rfl)
  · rintro _ rfl
    refine End.norm (S' := [⟨8, true, _, _⟩, ⟨6, true, _, _⟩, ⟨7, true, _, _⟩, ⟨1, true, _, _⟩, ⟨2, true, _, _⟩]) (M' := [⟨2, _, _⟩]) rfl rfl ?_
    refine End.nxt ?_
    refine Tr.seq ?_
    refine Tr.rg ?_
    refine TrL.op (ok_move rfl (fun _ => rfl)) rfl rfl ?_
    refine TrL.op (ok_move rfl (fun _ => rfl)) rfl rfl ?_
    refine TrL.op (ok_assign rfl (fun _ => rfl)) rfl rfl ?_
    refine TrL.op (ok_assign rfl (fun _ => rfl)) rfl rfl ?_
    refine TrL.fin ?_
    refine End.nxt ?_
    refine Tr.ret ?_
    exact Rts.res (fn := Tryd.f17) (ts := [4, 5]) rfl rfl (.i rfl (by rfl) <| .i rfl (by rfl) <| .nil)

set_option maxRecDepth 100000 in
theorem ct_rBoundary (o : Ori) (c : List Int) (v : Valid o) (hc : c.length = 2 * o.1.length) : Ct Tryd.prog 30 [kRd eLand (landOf o), kRd (eL eI) c] (kRd (eL eI) (bndW o c)) := by
  have hv0 := v.pos
  have hv1 := v.len
  have hv2 := v.le
  have hl1 := invL_len o.1
  have hl2 := invL_len o.2
  have hl3 := vertL_len (o := o)
  have hl4 := vtx_le (o := o)
  refine Ct.mk Tryd.func30 rfl Tryd.ntmps30 rfl (fun w J => ?_)
  refine Tr.seq ?_
  refine Tr.rg ?_
  refine TrL.new (ok_box 2 rfl (fun _ => rfl) rfl) rfl rfl rfl rfl ?_
  refine TrL.op (ok_assign rfl (fun _ => rfl)) rfl rfl ?_
  refine TrL.fin ?_
  refine End.nxt ?_
  refine Tr.seq ?_
  refine Tr.rg ?_
  refine TrL.op (ok_fldO rfl (fun _ => rfl)) rfl rfl ?_
  refine TrL.op (ok_ldB rfl (fun _ => rfl) rfl) rfl rfl ?_
  refine TrL.new (ok_makeN eI 12 rfl (fun _ => rfl) rfl (fun _ => rfl) rfl rfl rfl (fun _ => by omega)) rfl rfl rfl rfl ?_
  refine TrL.op (ok_assign rfl (fun _ => rfl)) rfl rfl ?_
  refine TrL.fin ?_
  refine End.nxt ?_
  refine Tr.seq ?_
  refine Tr.seq ?_
  refine Tr.rg ?_
  refine TrL.op (ok_assign rfl (fun _ => rfl)) rfl rfl ?_
  refine TrL.fin ?_
  refine End.nxt ?_
  refine Tr.for1 (σ := Nat) [⟨1, true, _, _⟩, ⟨2, true, _, _⟩, ⟨5, true, _, _⟩] [⟨2, _, _⟩] (fun k => [⟨6, true, [], kI (k : Int)⟩]) (fun k => [⟨12, [], cArr false 3 eI (rbT o c k) (vtx o).length⟩]) (fun k => k ≤ o.1.length) (fun k => k = o.1.length) (fun k => o.1.length - k) (0) (Nat.zero_le _) (Ent.mk (.i rfl (by first | rfl | omega | (simp; done) | (simp; omega) | assumption) <| .k rfl rfl <| .k rfl rfl <| .k rfl rfl <| .nil) (.a rbT_zero (by first | rfl | omega | (simp; done) | (simp; omega) | assumption) <| .k rfl <| .nil) rfl) ?_ ?_
  · intro k hR0
    refine Tr.norm (S' := [⟨6, true, _, _⟩, ⟨1, true, _, _⟩, ⟨2, true, _, _⟩, ⟨5, true, _, _⟩]) (M' := [⟨12, _, _⟩, ⟨2, _, _⟩]) rfl rfl ?_
    refine Tr.seq ?_
    refine Tr.seq ?_
    refine Tr.rg ?_
    refine TrL.op (ok_move rfl (fun _ => rfl)) rfl rfl ?_
    refine TrL.op (ok_fldO rfl (fun _ => rfl)) rfl rfl ?_
    refine TrL.op (ok_ldB rfl (fun _ => rfl) rfl) rfl rfl ?_
    refine TrL.op (ok_lss rfl (fun _ => rfl) rfl (fun _ => rfl)) rfl rfl ?_
    refine TrL.fin ?_
    refine End.nxt ?_
    refine Tr.cnd rfl ?_ ?_
    · intro h3
      replace h3 := of_decide_eq_true h3
      refine Tr.skip ?_
      refine End.nxt ?_
      refine Tr.seq ?_
      refine Tr.blk ?_
      refine Tr.seq ?_
      refine Tr.rg ?_
      have a0 := vertL_rng v (i := k) (by omega)
      have a1 := v.ri (i := k) (by omega)
      have a2 := v.ui (i := k) (by omega)
      have a3 := vertL_rng v (i := (nth o.1 k).toNat) (by omega)
      have a4 := vertL_rng v (i := (nth o.2 k).toNat) (by omega)
      refine TrL.op (ok_fldO rfl (fun _ => rfl)) rfl rfl ?_
      refine TrL.op (ok_ldB rfl (fun _ => rfl) rfl) rfl rfl ?_
      refine TrL.op (ok_move rfl (fun _ => rfl)) rfl rfl ?_
      first | refine TrL.op (ok_idxN rfl (fun _ => rfl) rfl (fun _ => rfl) rfl (fun _ => by omega)) rfl rfl ?_ | refine TrL.op (ok_idxP rfl (fun _ => rfl) rfl (fun _ => rfl) rfl (fun _ => by omega)) rfl rfl ?_
      refine TrL.op (ok_ldP rfl (fun _ => rfl) rfl) rfl rfl ?_
      refine TrL.op (ok_assign rfl (fun _ => rfl)) rfl rfl ?_
      refine TrL.fin ?_
      refine End.nxt ?_
      refine Tr.seq ?_
      refine Tr.draw 19 mixed (by kernel_rfl) ?_
      refine RunD.op (ok_fldO rfl (fun _ => rfl)) rfl rfl ?_
      refine RunD.op (ok_ldB rfl (fun _ => rfl) rfl) rfl rfl ?_
      refine RunD.op (ok_fldO rfl (fun _ => rfl)) rfl rfl ?_
      refine RunD.op (ok_ldB rfl (fun _ => rfl) rfl) rfl rfl ?_
      refine RunD.op (ok_move rfl (fun _ => rfl)) rfl rfl ?_
      first | refine RunD.op (ok_idxN rfl (fun _ => rfl) rfl (fun _ => rfl) rfl (fun _ => by omega)) rfl rfl ?_ | refine RunD.op (ok_idxP rfl (fun _ => rfl) rfl (fun _ => rfl) rfl (fun _ => by omega)) rfl rfl ?_
      refine RunD.op (ok_ldP rfl (fun _ => rfl) rfl) rfl rfl ?_
      first | refine RunD.op (ok_idxN rfl (fun _ => rfl) rfl (fun _ => rfl) rfl (fun _ => by omega)) rfl rfl ?_ | refine RunD.op (ok_idxP rfl (fun _ => rfl) rfl (fun _ => rfl) rfl (fun _ => by omega)) rfl rfl ?_
      refine RunD.op (ok_ldP rfl (fun _ => rfl) rfl) rfl rfl ?_
      refine RunD.op (ok_fldO rfl (fun _ => rfl)) rfl rfl ?_
      refine RunD.op (ok_ldB rfl (fun _ => rfl) rfl) rfl rfl ?_
      refine RunD.op (ok_fldO rfl (fun _ => rfl)) rfl rfl ?_
      refine RunD.op (ok_ldB rfl (fun _ => rfl) rfl) rfl rfl ?_
      refine RunD.op (ok_move rfl (fun _ => rfl)) rfl rfl ?_
      first | refine RunD.op (ok_idxN rfl (fun _ => rfl) rfl (fun _ => rfl) rfl (fun _ => by omega)) rfl rfl ?_ | refine RunD.op (ok_idxP rfl (fun _ => rfl) rfl (fun _ => rfl) rfl (fun _ => by omega)) rfl rfl ?_
      refine RunD.op (ok_ldP rfl (fun _ => rfl) rfl) rfl rfl ?_
      first | refine RunD.op (ok_idxN rfl (fun _ => rfl) rfl (fun _ => rfl) rfl (fun _ => by omega)) rfl rfl ?_ | refine RunD.op (ok_idxP rfl (fun _ => rfl) rfl (fun _ => rfl) rfl (fun _ => by omega)) rfl rfl ?_
      refine RunD.op (ok_ldP rfl (fun _ => rfl) rfl) rfl rfl ?_
      refine RunD.op (ok_assign rfl (fun _ => rfl)) rfl rfl ?_
      refine RunD.z ?_
      refine TrL.op (ok_assign rfl (fun _ => rfl)) rfl rfl ?_
      refine TrL.fin ?_
      refine End.nxt ?_
      refine Tr.seq ?_
      refine Tr.draw 11 mixed (by kernel_rfl) ?_
      refine RunD.op (ok_move rfl (fun _ => rfl)) rfl rfl ?_
      refine RunD.op (ok_move rfl (fun _ => rfl)) rfl rfl ?_
      refine RunD.op (ok_move rfl (fun _ => rfl)) rfl rfl ?_
      refine RunD.op (ok_move rfl (fun _ => rfl)) rfl rfl ?_
      first | refine RunD.op (ok_idxEN rfl (fun _ => rfl) rfl (fun _ => rfl) (fun _ => by omega)) rfl rfl ?_ | refine RunD.op (ok_idxE rfl (fun _ => rfl) rfl (fun _ => rfl) (fun _ => by omega)) rfl rfl ?_
      refine RunD.op (ok_ldE rfl (fun _ => rfl) rfl rfl rfl) rfl rfl ?_
      refine RunD.op (ok_move rfl (fun _ => rfl)) rfl rfl ?_
      refine RunD.op (ok_move rfl (fun _ => rfl)) rfl rfl ?_
      first | refine RunD.op (ok_idxN rfl (fun _ => rfl) rfl (fun _ => rfl) rfl (fun _ => by omega)) rfl rfl ?_ | refine RunD.op (ok_idxP rfl (fun _ => rfl) rfl (fun _ => rfl) rfl (fun _ => by omega)) rfl rfl ?_
      refine RunD.op (ok_ldP rfl (fun _ => rfl) rfl) rfl rfl ?_
      refine RunD.op (ok_addW rfl (fun _ => rfl) rfl (fun _ => rfl)) rfl rfl ?_
      refine RunD.z ?_
      first | refine TrL.op (ok_idxEN rfl (fun _ => rfl) rfl (fun _ => rfl) (fun _ => by omega)) rfl rfl ?_ | refine TrL.op (ok_idxE rfl (fun _ => rfl) rfl (fun _ => rfl) (fun _ => by omega)) rfl rfl ?_
      refine TrL.stE rfl rfl rfl rfl rfl ?_
      refine TrL.fin ?_
      refine End.nxt ?_
      refine Tr.seq ?_
      refine Tr.draw 11 mixed (by kernel_rfl) ?_
      refine RunD.op (ok_move rfl (fun _ => rfl)) rfl rfl ?_
      refine RunD.op (ok_move rfl (fun _ => rfl)) rfl rfl ?_
      refine RunD.op (ok_move rfl (fun _ => rfl)) rfl rfl ?_
      refine RunD.op (ok_move rfl (fun _ => rfl)) rfl rfl ?_
      first | refine RunD.op (ok_idxEN rfl (fun _ => rfl) rfl (fun _ => rfl) (fun _ => by omega)) rfl rfl ?_ | refine RunD.op (ok_idxE rfl (fun _ => rfl) rfl (fun _ => rfl) (fun _ => by omega)) rfl rfl ?_
      refine RunD.op (ok_ldE rfl (fun _ => rfl) rfl rfl rfl) rfl rfl ?_
      refine RunD.op (ok_move rfl (fun _ => rfl)) rfl rfl ?_
      refine RunD.op (ok_move rfl (fun _ => rfl)) rfl rfl ?_
      first | refine RunD.op (ok_idxN rfl (fun _ => rfl) rfl (fun _ => rfl) rfl (fun _ => by omega)) rfl rfl ?_ | refine RunD.op (ok_idxP rfl (fun _ => rfl) rfl (fun _ => rfl) rfl (fun _ => by omega)) rfl rfl ?_
      refine RunD.op (ok_ldP rfl (fun _ => rfl) rfl) rfl rfl ?_
      refine RunD.op (ok_subW rfl (fun _ => rfl) rfl (fun _ => rfl)) rfl rfl ?_
      refine RunD.z ?_
      first | refine TrL.op (ok_idxEN rfl (fun _ => rfl) rfl (fun _ => rfl) (fun _ => by omega)) rfl rfl ?_ | refine TrL.op (ok_idxE rfl (fun _ => rfl) rfl (fun _ => rfl) (fun _ => by omega)) rfl rfl ?_
      refine TrL.stE rfl rfl rfl rfl rfl ?_
      refine TrL.fin ?_
      refine End.nxt ?_
      refine Tr.seq ?_
      refine Tr.draw 14 mixed (by kernel_rfl) ?_
      refine RunD.op (ok_move rfl (fun _ => rfl)) rfl rfl ?_
      refine RunD.op (ok_move rfl (fun _ => rfl)) rfl rfl ?_
      refine RunD.op (ok_move rfl (fun _ => rfl)) rfl rfl ?_
      refine RunD.op (ok_move rfl (fun _ => rfl)) rfl rfl ?_
      first | refine RunD.op (ok_idxEN rfl (fun _ => rfl) rfl (fun _ => rfl) (fun _ => by omega)) rfl rfl ?_ | refine RunD.op (ok_idxE rfl (fun _ => rfl) rfl (fun _ => rfl) (fun _ => by omega)) rfl rfl ?_
      refine RunD.op (ok_ldE rfl (fun _ => rfl) rfl rfl rfl) rfl rfl ?_
      refine RunD.op (ok_move rfl (fun _ => rfl)) rfl rfl ?_
      refine RunD.op (ok_fldO rfl (fun _ => rfl)) rfl rfl ?_
      refine RunD.op (ok_ldB rfl (fun _ => rfl) rfl) rfl rfl ?_
      refine RunD.op (ok_move rfl (fun _ => rfl)) rfl rfl ?_
      refine RunD.op (ok_add rfl (fun _ => rfl) rfl (fun _ => rfl) (fun _ => by omega)) rfl rfl ?_
      first | refine RunD.op (ok_idxN rfl (fun _ => rfl) rfl (fun _ => rfl) rfl (fun _ => by omega)) rfl rfl ?_ | refine RunD.op (ok_idxP rfl (fun _ => rfl) rfl (fun _ => rfl) rfl (fun _ => by omega)) rfl rfl ?_
      refine RunD.op (ok_ldP rfl (fun _ => rfl) rfl) rfl rfl ?_
      refine RunD.op (ok_addW rfl (fun _ => rfl) rfl (fun _ => rfl)) rfl rfl ?_
      refine RunD.z ?_
      first | refine TrL.op (ok_idxEN rfl (fun _ => rfl) rfl (fun _ => rfl) (fun _ => by omega)) rfl rfl ?_ | refine TrL.op (ok_idxE rfl (fun _ => rfl) rfl (fun _ => rfl) (fun _ => by omega)) rfl rfl ?_
      refine TrL.stE rfl rfl rfl rfl rfl ?_
      refine TrL.fin ?_
      refine End.nxt ?_
      refine Tr.draw 14 mixed (by kernel_rfl) ?_
      refine RunD.op (ok_move rfl (fun _ => rfl)) rfl rfl ?_
      refine RunD.op (ok_move rfl (fun _ => rfl)) rfl rfl ?_
      refine RunD.op (ok_move rfl (fun _ => rfl)) rfl rfl ?_
      refine RunD.op (ok_move rfl (fun _ => rfl)) rfl rfl ?_
      first | refine RunD.op (ok_idxEN rfl (fun _ => rfl) rfl (fun _ => rfl) (fun _ => by omega)) rfl rfl ?_ | refine RunD.op (ok_idxE rfl (fun _ => rfl) rfl (fun _ => rfl) (fun _ => by omega)) rfl rfl ?_
      refine RunD.op (ok_ldE rfl (fun _ => rfl) rfl rfl rfl) rfl rfl ?_
      refine RunD.op (ok_move rfl (fun _ => rfl)) rfl rfl ?_
      refine RunD.op (ok_fldO rfl (fun _ => rfl)) rfl rfl ?_
      refine RunD.op (ok_ldB rfl (fun _ => rfl) rfl) rfl rfl ?_
      refine RunD.op (ok_move rfl (fun _ => rfl)) rfl rfl ?_
      refine RunD.op (ok_add rfl (fun _ => rfl) rfl (fun _ => rfl) (fun _ => by omega)) rfl rfl ?_
      first | refine RunD.op (ok_idxN rfl (fun _ => rfl) rfl (fun _ => rfl) rfl (fun _ => by omega)) rfl rfl ?_ | refine RunD.op (ok_idxP rfl (fun _ => rfl) rfl (fun _ => rfl) rfl (fun _ => by omega)) rfl rfl ?_
      refine RunD.op (ok_ldP rfl (fun _ => rfl) rfl) rfl rfl ?_
      refine RunD.op (ok_subW rfl (fun _ => rfl) rfl (fun _ => rfl)) rfl rfl ?_
      refine RunD.z ?_
      first | refine TrL.op (ok_idxEN rfl (fun _ => rfl) rfl (fun _ => rfl) (fun _ => by omega)) rfl rfl ?_ | refine TrL.op (ok_idxE rfl (fun _ => rfl) rfl (fun _ => rfl) (fun _ => by omega)) rfl rfl ?_
      refine TrL.stE rfl rfl rfl rfl rfl ?_
      refine TrL.fin ?_
      refine End.blk ?_
      refine End.nxt ?_
      refine Tr.rg ?_
      refine TrL.op (ok_move rfl (fun _ => rfl)) rfl rfl ?_
      refine TrL.op (ok_add rfl (fun _ => rfl) rfl (fun _ => rfl) (fun _ => by omega)) rfl rfl ?_
      refine TrL.op (ok_assign rfl (fun _ => rfl)) rfl rfl ?_
      refine TrL.fin ?_
      exact End.lp (k + 1) (by first | rfl | omega | (simp; done) | (simp; omega) | assumption) (by omega) (Ent.mk (.i rfl (by first | rfl | omega | (simp; done) | (simp; omega) | assumption) <| .k rfl rfl <| .k rfl rfl <| .k rfl rfl <| .nil) (.a (rbT_succ v (by omega) rfl rfl rfl rfl rfl rfl rfl rfl) (by first | rfl | omega | (simp; done) | (simp; omega) | assumption) <| .k rfl <| .nil) rfl)
    · intro h3
      replace h3 := Int.not_lt.1 (of_decide_eq_false h3)
      refine Tr.exit ?_
      refine Exs.thn ?_
      refine Exs.thn ?_
      refine Exs.here ?_
      exact End.cut (k) (by omega) (Ent.mk (.i rfl (by first | rfl | omega | (simp; done) | (simp; omega) | assumption) <| .k rfl rfl <| .k rfl rfl <| .k rfl rfl <| .nil) (.a (by first | rfl | omega | (simp; done) | (simp; omega) | assumption) (by first | rfl | omega | (simp; done) | (simp; omega) | assumption) <| .k rfl <| .nil) rfl)
  · rintro _ rfl
    refine End.norm (S' := [⟨6, true, _, _⟩, ⟨1, true, _, _⟩, ⟨2, true, _, _⟩, ⟨5, true, _, _⟩]) (M' := [⟨12, _, _⟩, ⟨2, _, _⟩]) rfl rfl ?_
    refine End.nxt ?_
    refine Tr.seq ?_
    refine Tr.rg ?_
    refine TrL.op (ok_move rfl (fun _ => rfl)) rfl rfl ?_
    refine TrL.op (ok_assign rfl (fun _ => rfl)) rfl rfl ?_
    refine TrL.fin ?_
    refine End.nxt ?_
    refine Tr.frz 12 [4] ⟨rfl, trivial⟩ (by simp only [lenMax]; omega) rfl ?_
    refine Tr.ret ?_
    exact Rts.res1 (fn := Tryd.f30) rfl (.r rfl (rbT_all v hc) <| .nil)

set_option maxRecDepth 100000 in
theorem ct_rzero (l : List Int) : Ct Tryd.prog 69 [kRd (eL eI) l] (kB (!l.any nz)) := by
  refine Ct.mk Tryd.func69 rfl Tryd.ntmps69 rfl (fun w J => ?_)
  refine Tr.fact (s := 0) rfl (fun _ _ h => lenB h) (fun hb => ?_)
  refine Tr.seq ?_
  refine Tr.rg ?_
  refine TrL.op (ok_assign rfl (fun _ => rfl)) rfl rfl ?_
  refine TrL.fin ?_
  refine End.nxt ?_
  refine Tr.seq ?_
  refine Tr.seq ?_
  refine Tr.rg ?_
  refine TrL.op (ok_assign rfl (fun _ => rfl)) rfl rfl ?_
  refine TrL.fin ?_
  refine End.nxt ?_
  refine Tr.for1 (σ := Nat) [⟨0, true, _, _⟩] [] (fun k => [⟨3, true, [], kI (k : Int)⟩]) (fun k => []) (fun k => k ≤ l.length ∧ ∀ i, i < k → nz (nth l i) = false) (fun k => ∀ i, i < l.length → nz (nth l i) = false) (fun k => l.length - k) (0) ⟨Nat.zero_le _, fun i h => absurd h (by omega)⟩ (Ent.mk (.i rfl (by first | rfl | omega | (simp; done) | (simp; omega) | assumption) <| .k rfl rfl <| .nil) (.nil) rfl) ?_ ?_
  · rintro k ⟨hk0, hR0⟩
    refine Tr.norm (S' := [⟨3, true, _, _⟩, ⟨0, true, _, _⟩]) (M' := []) rfl rfl ?_
    refine Tr.seq ?_
    refine Tr.seq ?_
    refine Tr.rg ?_
    refine TrL.op (ok_move rfl (fun _ => rfl)) rfl rfl ?_
    refine TrL.op (ok_move rfl (fun _ => rfl)) rfl rfl ?_
    refine TrL.op (ok_lenJ rfl (fun _ => rfl)) rfl rfl ?_
    refine TrL.op (ok_lss rfl (fun _ => rfl) rfl (fun _ => rfl)) rfl rfl ?_
    refine TrL.fin ?_
    refine End.nxt ?_
    refine Tr.cnd rfl ?_ ?_
    · intro h2
      replace h2 := of_decide_eq_true h2
      refine Tr.skip ?_
      refine End.nxt ?_
      refine Tr.seq ?_
      refine Tr.blk ?_
      refine Tr.seq ?_
      refine Tr.rg ?_
      refine TrL.op (ok_move rfl (fun _ => rfl)) rfl rfl ?_
      refine TrL.op (ok_move rfl (fun _ => rfl)) rfl rfl ?_
      first | refine TrL.op (ok_idxN rfl (fun _ => rfl) rfl (fun _ => rfl) rfl (fun _ => by omega)) rfl rfl ?_ | refine TrL.op (ok_idxP rfl (fun _ => rfl) rfl (fun _ => rfl) rfl (fun _ => by omega)) rfl rfl ?_
      refine TrL.op (ok_ldP rfl (fun _ => rfl) rfl) rfl rfl ?_
      refine TrL.op (ok_neq rfl (fun _ => rfl) rfl (fun _ => rfl)) rfl rfl ?_
      refine TrL.fin ?_
      refine End.nxt ?_
      refine Tr.cnd rfl ?_ ?_
      · intro h4
        replace h4 := of_decide_eq_true h4
        refine Tr.seq ?_
        refine Tr.rg ?_
        refine TrL.op (ok_assign rfl (fun _ => rfl)) rfl rfl ?_
        refine TrL.fin ?_
        refine End.nxt ?_
        refine Tr.ret ?_
        refine Rts.out ?_
        refine Rts.thn ?_
        refine Rts.thn ?_
        refine Rts.out ?_
        refine Rts.thn ?_
        refine Rts.thn ?_
        exact Rts.res1 (fn := Tryd.f69) rfl (.b rfl (by rw [any_at (i := k) (by omega) (show nz _ = true from decide_eq_true h4)]; rfl) <| .nil)
      · intro h4
        replace h4 := Classical.not_not.1 (of_decide_eq_false h4)
        refine Tr.skip ?_
        refine End.blk ?_
        refine End.nxt ?_
        refine Tr.rg ?_
        refine TrL.op (ok_move rfl (fun _ => rfl)) rfl rfl ?_
        refine TrL.op (ok_add rfl (fun _ => rfl) rfl (fun _ => rfl) (fun _ => by omega)) rfl rfl ?_
        refine TrL.op (ok_assign rfl (fun _ => rfl)) rfl rfl ?_
        refine TrL.fin ?_
        exact End.lp (k + 1) ⟨by omega, all_succ hR0 (decide_eq_false (by omega))⟩ (by omega) (Ent.mk (.i rfl (by first | rfl | omega | (simp; done) | (simp; omega) | assumption) <| .k rfl rfl <| .nil) (.nil) rfl)
    · intro h2
      replace h2 := Int.not_lt.1 (of_decide_eq_false h2)
      refine Tr.exit ?_
      refine Exs.thn ?_
      refine Exs.thn ?_
      refine Exs.here ?_
      exact End.cut (k) (fun i hi => hR0 i (by omega)) (Ent.mk (.i rfl (by first | rfl | omega | (simp; done) | (simp; omega) | assumption) <| .k rfl rfl <| .nil) (.nil) rfl)
  · intro k hE0
    refine End.norm (S' := [⟨3, true, _, _⟩, ⟨0, true, _, _⟩]) (M' := []) rfl rfl ?_
    refine End.nxt ?_
    refine Tr.seq ?_
    refine Tr.rg ?_
    refine TrL.op (ok_assign rfl (fun _ => rfl)) rfl rfl ?_
    refine TrL.fin ?_
    refine End.nxt ?_
    refine Tr.ret ?_
    exact Rts.res1 (fn := Tryd.f69) rfl (.b rfl (by rw [any_false_iff.2 hE0]; rfl) <| .nil)

set_option maxRecDepth 100000 in
theorem ct_rCheckCycles (o : Ori) (l : List (List Int)) (v : Valid o) : Ct Tryd.prog 50 [kRd eLand (landOf o), kRd (eL (eL eI)) l] (kI (chkZs o l)) := by
  have hv0 := v.pos
  have hv1 := v.len
  have hv2 := v.le
  have hl1 := invL_len o.1
  have hl2 := invL_len o.2
  have hl3 := vertL_len (o := o)
  have hl4 := vtx_le (o := o)
  refine Ct.mk Tryd.func50 rfl Tryd.ntmps50 rfl (fun w J => ?_)
  refine Tr.seq ?_
  refine Tr.rg ?_
  refine TrL.new (ok_box 2 rfl (fun _ => rfl) rfl) rfl rfl rfl rfl ?_
  refine TrL.op (ok_assign rfl (fun _ => rfl)) rfl rfl ?_
  refine TrL.fin ?_
  refine End.nxt ?_
  refine Tr.seq ?_
  refine Tr.seq ?_
  refine Tr.rg ?_
  refine TrL.op (ok_move rfl (fun _ => rfl)) rfl rfl ?_
  refine TrL.op (ok_lenJ rfl (fun _ => rfl)) rfl rfl ?_
  refine TrL.op (ok_gtr rfl (fun _ => rfl) rfl (fun _ => rfl)) rfl rfl ?_
  refine TrL.fin ?_
  refine End.nxt ?_
  refine Tr.cnd rfl ?_ ?_
  · intro h1
    replace h1 := of_decide_eq_true h1
    refine Tr.seq ?_
    refine Tr.rg ?_
    refine TrL.op (ok_assign rfl (fun _ => rfl)) rfl rfl ?_
    refine TrL.fin ?_
    refine End.nxt ?_
    refine Tr.ret ?_
    refine Rts.thn ?_
    exact Rts.res1 (fn := Tryd.f50) rfl (.i rfl (by unfold chkZs; rw [if_pos (by omega)]) <| .nil)
  · intro h1
    replace h1 := Int.not_lt.1 (of_decide_eq_false h1)
    refine Tr.skip ?_
    refine End.nxt ?_
    refine Tr.seq ?_
    refine Tr.seq ?_
    refine Tr.rg ?_
    refine TrL.op (ok_assign rfl (fun _ => rfl)) rfl rfl ?_
    refine TrL.fin ?_
    refine End.nxt ?_
    refine Tr.for1 (σ := Nat) [⟨1, true, _, _⟩, ⟨2, true, _, _⟩] [⟨2, _, _⟩] (fun k => [⟨5, true, [], kI (k : Int)⟩]) (fun k => []) (fun k => k ≤ l.length ∧ ∀ i, i < k → nth (l.map (chkZ o)) i = 0) (fun k => ∀ i, i < l.length → nth (l.map (chkZ o)) i = 0) (fun k => l.length - k) (0) ⟨Nat.zero_le _, fun i h => absurd h (by omega)⟩ (Ent.mk (.i rfl (by first | rfl | omega | (simp; done) | (simp; omega) | assumption) <| .k rfl rfl <| .k rfl rfl <| .nil) (.k rfl <| .nil) rfl) ?_ ?_
    · rintro k ⟨hk0, hR0⟩
      refine Tr.norm (S' := [⟨5, true, _, _⟩, ⟨1, true, _, _⟩, ⟨2, true, _, _⟩]) (M' := [⟨2, _, _⟩]) rfl rfl ?_
      refine Tr.seq ?_
      refine Tr.seq ?_
      refine Tr.rg ?_
      refine TrL.op (ok_move rfl (fun _ => rfl)) rfl rfl ?_
      refine TrL.op (ok_move rfl (fun _ => rfl)) rfl rfl ?_
      refine TrL.op (ok_lenJ rfl (fun _ => rfl)) rfl rfl ?_
      refine TrL.op (ok_lss rfl (fun _ => rfl) rfl (fun _ => rfl)) rfl rfl ?_
      refine TrL.fin ?_
      refine End.nxt ?_
      refine Tr.cnd rfl ?_ ?_
      · intro h4
        replace h4 := of_decide_eq_true h4
        refine Tr.skip ?_
        refine End.nxt ?_
        refine Tr.seq ?_
        refine Tr.blk ?_
        refine Tr.seq ?_
        refine Tr.seq ?_
        refine Tr.draw 5 mixed (by kernel_rfl) ?_
        refine RunD.op (ok_ldBS rfl (fun _ => rfl)) rfl rfl ?_
        refine RunD.op (ok_move rfl (fun _ => rfl)) rfl rfl ?_
        refine RunD.op (ok_move rfl (fun _ => rfl)) rfl rfl ?_
        first | refine RunD.op (ok_idxN rfl (fun _ => rfl) rfl (fun _ => rfl) rfl (fun _ => by omega)) rfl rfl ?_ | refine RunD.op (ok_idxP rfl (fun _ => rfl) rfl (fun _ => rfl) rfl (fun _ => by omega)) rfl rfl ?_
        refine RunD.op (ok_ldP rfl (fun _ => rfl) rfl) rfl rfl ?_
        refine RunD.z ?_
        refine TrL.op (ok_call (fun hp => ct_rCheckChain _ _ v) (.s rfl (fun _ => rfl) rfl <| .a rfl (fun _ => rfl) <| .nil)) rfl rfl ?_
        refine TrL.op (ok_assign rfl (fun _ => rfl)) rfl rfl ?_
        refine TrL.fin ?_
        refine End.nxt ?_
        refine Tr.seq ?_
        refine Tr.rg ?_
        refine TrL.op (ok_move rfl (fun _ => rfl)) rfl rfl ?_
        refine TrL.op (ok_neq rfl (fun _ => rfl) rfl (fun _ => rfl)) rfl rfl ?_
        refine TrL.fin ?_
        refine End.nxt ?_
        refine Tr.cnd rfl ?_ ?_
        · intro h7
          replace h7 := of_decide_eq_true h7
          refine Tr.seq ?_
          refine Tr.rg ?_
          refine TrL.op (ok_move rfl (fun _ => rfl)) rfl rfl ?_
          refine TrL.op (ok_assign rfl (fun _ => rfl)) rfl rfl ?_
          refine TrL.fin ?_
          refine End.nxt ?_
          refine Tr.ret ?_
          refine Rts.thn ?_
          refine Rts.out ?_
          refine Rts.thn ?_
          refine Rts.thn ?_
          refine Rts.out ?_
          refine Rts.thn ?_
          refine Rts.thn ?_
          exact Rts.res1 (fn := Tryd.f50) rfl (.i rfl (by unfold chkZs; rw [if_neg (by omega), fstE_at (k := k) (by rw [List.length_map]; omega) hR0 (by rw [nth_map (by omega)]; unfold chkZ; rw [orE_l h7]; exact h7), nth_map (by omega)]; unfold chkZ; rw [orE_l h7]) <| .nil)
        · intro h7
          replace h7 := Classical.not_not.1 (of_decide_eq_false h7)
          refine Tr.skip ?_
          refine End.nxt ?_
          refine Tr.seq ?_
          refine Tr.draw 5 mixed (by kernel_rfl) ?_
          refine RunD.op (ok_ldBS rfl (fun _ => rfl)) rfl rfl ?_
          refine RunD.op (ok_move rfl (fun _ => rfl)) rfl rfl ?_
          refine RunD.op (ok_move rfl (fun _ => rfl)) rfl rfl ?_
          first | refine RunD.op (ok_idxN rfl (fun _ => rfl) rfl (fun _ => rfl) rfl (fun _ => by omega)) rfl rfl ?_ | refine RunD.op (ok_idxP rfl (fun _ => rfl) rfl (fun _ => rfl) rfl (fun _ => by omega)) rfl rfl ?_
          refine RunD.op (ok_ldP rfl (fun _ => rfl) rfl) rfl rfl ?_
          refine RunD.z ?_
          refine TrL.op (ok_call (fun hp => ct_rBoundary _ _ v (chkC_len h7)) (.s rfl (fun _ => rfl) rfl <| .a rfl (fun _ => rfl) <| .nil)) rfl rfl ?_
          refine TrL.op (ok_call (fun hp => ct_rzero _) (.a rfl (fun _ => rfl) <| .nil)) rfl rfl ?_
          refine TrL.op (ok_not rfl (fun _ => rfl)) rfl rfl ?_
          refine TrL.fin ?_
          refine End.nxt ?_
          refine Tr.cnd rfl ?_ ?_
          · intro h9
            try simp only [Bool.not_eq_true', Bool.not_eq_false'] at h9
            have hany : (bndW o (nth l k)).any nz = true := by (cases hh : (bndW o (nth l k)).any nz; rw [hh] at h9; simp at h9; rfl)
            refine Tr.seq ?_
            refine Tr.rg ?_
            refine TrL.op (ok_assign rfl (fun _ => rfl)) rfl rfl ?_
            refine TrL.fin ?_
            refine End.nxt ?_
            refine Tr.ret ?_
            refine Rts.out ?_
            refine Rts.thn ?_
            refine Rts.thn ?_
            refine Rts.out ?_
            refine Rts.thn ?_
            refine Rts.thn ?_
            exact Rts.res1 (fn := Tryd.f50) rfl (.i rfl (by unfold chkZs; rw [if_neg (by omega), fstE_at (k := k) (by rw [List.length_map]; omega) hR0 (by rw [nth_map (by omega)]; unfold chkZ; rw [orE_r h7, if_pos hany]; decide), nth_map (by omega)]; unfold chkZ; rw [orE_r h7, if_pos hany]) <| .nil)
          · intro h9
            try simp only [Bool.not_eq_true', Bool.not_eq_false'] at h9
            have hany : (bndW o (nth l k)).any nz = false := by (cases hh : (bndW o (nth l k)).any nz; rfl; rw [hh] at h9; simp at h9)
            refine Tr.skip ?_
            refine End.blk ?_
            refine End.nxt ?_
            refine Tr.rg ?_
            refine TrL.op (ok_move rfl (fun _ => rfl)) rfl rfl ?_
            refine TrL.op (ok_add rfl (fun _ => rfl) rfl (fun _ => rfl) (fun _ => by omega)) rfl rfl ?_
            refine TrL.op (ok_assign rfl (fun _ => rfl)) rfl rfl ?_
            refine TrL.fin ?_
            exact End.lp (k + 1) ⟨by omega, all_succ hR0 (by rw [nth_map (by omega)]; unfold chkZ; rw [orE_r h7]; rw [if_neg (by rw [hany]; simp)])⟩ (by omega) (Ent.mk (.i rfl (by first | rfl | omega | (simp; done) | (simp; omega) | assumption) <| .k rfl rfl <| .k rfl rfl <| .nil) (.k rfl <| .nil) rfl)
      · intro h4
        replace h4 := Int.not_lt.1 (of_decide_eq_false h4)
        refine Tr.exit ?_
        refine Exs.thn ?_
        refine Exs.thn ?_
        refine Exs.here ?_
        exact End.cut (k) (fun i hi => hR0 i (by omega)) (Ent.mk (.i rfl (by first | rfl | omega | (simp; done) | (simp; omega) | assumption) <| .k rfl rfl <| .k rfl rfl <| .nil) (.k rfl <| .nil) rfl)
    · intro k hE0
      refine End.norm (S' := [⟨5, true, _, _⟩, ⟨1, true, _, _⟩, ⟨2, true, _, _⟩]) (M' := [⟨2, _, _⟩]) rfl rfl ?_
      refine End.nxt ?_
      refine Tr.seq ?_
      refine Tr.rg ?_
      refine TrL.op (ok_assign rfl (fun _ => rfl)) rfl rfl ?_
      refine TrL.fin ?_
      refine End.nxt ?_
      refine Tr.ret ?_
      exact Rts.res1 (fn := Tryd.f50) rfl (.i rfl (by unfold chkZs; rw [if_neg (by omega), fstE_zero (by rw [List.length_map]; exact hE0)]) <| .nil)

set_option maxRecDepth 100000 in
theorem ct_rSquare (o : Ori) (i : Int) (v : Valid o) (h0 : 0 ≤ i) (h1 : i < o.1.length) : Ct Tryd.prog 38 [kRd eLand (landOf o), kI i] (kRd (eL eI) (sqL o i)) := by
  have hv0 := v.pos
  have hv1 := v.len
  have hv2 := v.le
  have hl1 := invL_len o.1
  have hl2 := invL_len o.2
  have hl3 := vertL_len (o := o)
  have hl4 := vtx_le (o := o)
  have hr := v.ri (i := i.toNat) (by omega)
  have hu := v.ui (i := i.toNat) (by omega)
  refine Ct.mk Tryd.func38 rfl Tryd.ntmps38 rfl (fun w J => ?_)
  refine Tr.seq ?_
  refine Tr.rg ?_
  refine TrL.new (ok_box 2 rfl (fun _ => rfl) rfl) rfl rfl rfl rfl ?_
  refine TrL.op (ok_assign rfl (fun _ => rfl)) rfl rfl ?_
  refine TrL.fin ?_
  refine End.nxt ?_
  refine Tr.seq ?_
  refine Tr.rg ?_
  refine TrL.op (ok_fldO rfl (fun _ => rfl)) rfl rfl ?_
  refine TrL.op (ok_ldB rfl (fun _ => rfl) rfl) rfl rfl ?_
  refine TrL.op (ok_mul rfl (fun _ => rfl) rfl (fun _ => rfl) (fun _ => by omega)) rfl rfl ?_
  refine TrL.new (ok_make eI 9 rfl (fun _ => rfl) rfl (fun _ => rfl) rfl rfl (fun _ => by omega)) rfl rfl rfl rfl ?_
  refine TrL.op (ok_assign rfl (fun _ => rfl)) rfl rfl ?_
  refine TrL.fin ?_
  refine End.nxt ?_
  refine Tr.seq ?_
  refine Tr.rg ?_
  refine TrL.op (ok_move rfl (fun _ => rfl)) rfl rfl ?_
  refine TrL.op (ok_move rfl (fun _ => rfl)) rfl rfl ?_
  refine TrL.op (ok_move rfl (fun _ => rfl)) rfl rfl ?_
  refine TrL.op (ok_move rfl (fun _ => rfl)) rfl rfl ?_
  first | refine TrL.op (ok_idxEN rfl (fun _ => rfl) rfl (fun _ => rfl) (fun _ => by omega)) rfl rfl ?_ | refine TrL.op (ok_idxE rfl (fun _ => rfl) rfl (fun _ => rfl) (fun _ => by omega)) rfl rfl ?_
  refine TrL.op (ok_ldE rfl (fun _ => rfl) rfl rfl rfl) rfl rfl ?_
  refine TrL.op (ok_addW rfl (fun _ => rfl) rfl (fun _ => rfl)) rfl rfl ?_
  first | refine TrL.op (ok_idxEN rfl (fun _ => rfl) rfl (fun _ => rfl) (fun _ => by omega)) rfl rfl ?_ | refine TrL.op (ok_idxE rfl (fun _ => rfl) rfl (fun _ => rfl) (fun _ => by omega)) rfl rfl ?_
  refine TrL.stE rfl rfl rfl rfl rfl ?_
  refine TrL.fin ?_
  refine End.nxt ?_
  refine Tr.seq ?_
  refine Tr.draw 21 mixed (by kernel_rfl) ?_
  refine RunD.op (ok_move rfl (fun _ => rfl)) rfl rfl ?_
  refine RunD.op (ok_fldO rfl (fun _ => rfl)) rfl rfl ?_
  refine RunD.op (ok_ldB rfl (fun _ => rfl) rfl) rfl rfl ?_
  refine RunD.op (ok_fldO rfl (fun _ => rfl)) rfl rfl ?_
  refine RunD.op (ok_ldB rfl (fun _ => rfl) rfl) rfl rfl ?_
  refine RunD.op (ok_move rfl (fun _ => rfl)) rfl rfl ?_
  first | refine RunD.op (ok_idxN rfl (fun _ => rfl) rfl (fun _ => rfl) rfl (fun _ => by omega)) rfl rfl ?_ | refine RunD.op (ok_idxP rfl (fun _ => rfl) rfl (fun _ => rfl) rfl (fun _ => by omega)) rfl rfl ?_
  refine RunD.op (ok_ldP rfl (fun _ => rfl) rfl) rfl rfl ?_
  refine RunD.op (ok_add rfl (fun _ => rfl) rfl (fun _ => rfl) (fun _ => by omega)) rfl rfl ?_
  refine RunD.op (ok_move rfl (fun _ => rfl)) rfl rfl ?_
  refine RunD.op (ok_fldO rfl (fun _ => rfl)) rfl rfl ?_
  refine RunD.op (ok_ldB rfl (fun _ => rfl) rfl) rfl rfl ?_
  refine RunD.op (ok_fldO rfl (fun _ => rfl)) rfl rfl ?_
  refine RunD.op (ok_ldB rfl (fun _ => rfl) rfl) rfl rfl ?_
  refine RunD.op (ok_move rfl (fun _ => rfl)) rfl rfl ?_
  first | refine RunD.op (ok_idxN rfl (fun _ => rfl) rfl (fun _ => rfl) rfl (fun _ => by omega)) rfl rfl ?_ | refine RunD.op (ok_idxP rfl (fun _ => rfl) rfl (fun _ => rfl) rfl (fun _ => by omega)) rfl rfl ?_
  refine RunD.op (ok_ldP rfl (fun _ => rfl) rfl) rfl rfl ?_
  refine RunD.op (ok_add rfl (fun _ => rfl) rfl (fun _ => rfl) (fun _ => by omega)) rfl rfl ?_
  first | refine RunD.op (ok_idxEN rfl (fun _ => rfl) rfl (fun _ => rfl) (fun _ => by omega)) rfl rfl ?_ | refine RunD.op (ok_idxE rfl (fun _ => rfl) rfl (fun _ => rfl) (fun _ => by omega)) rfl rfl ?_
  refine RunD.op (ok_ldE rfl (fun _ => rfl) rfl rfl rfl) rfl rfl ?_
  refine RunD.op (ok_addW rfl (fun _ => rfl) rfl (fun _ => rfl)) rfl rfl ?_
  refine RunD.z ?_
  first | refine TrL.op (ok_idxEN rfl (fun _ => rfl) rfl (fun _ => rfl) (fun _ => by omega)) rfl rfl ?_ | refine TrL.op (ok_idxE rfl (fun _ => rfl) rfl (fun _ => rfl) (fun _ => by omega)) rfl rfl ?_
  refine TrL.stE rfl rfl rfl rfl rfl ?_
  refine TrL.fin ?_
  refine End.nxt ?_
  refine Tr.seq ?_
  refine Tr.draw 15 mixed (by kernel_rfl) ?_
  refine RunD.op (ok_move rfl (fun _ => rfl)) rfl rfl ?_
  refine RunD.op (ok_fldO rfl (fun _ => rfl)) rfl rfl ?_
  refine RunD.op (ok_ldB rfl (fun _ => rfl) rfl) rfl rfl ?_
  refine RunD.op (ok_move rfl (fun _ => rfl)) rfl rfl ?_
  first | refine RunD.op (ok_idxN rfl (fun _ => rfl) rfl (fun _ => rfl) rfl (fun _ => by omega)) rfl rfl ?_ | refine RunD.op (ok_idxP rfl (fun _ => rfl) rfl (fun _ => rfl) rfl (fun _ => by omega)) rfl rfl ?_
  refine RunD.op (ok_ldP rfl (fun _ => rfl) rfl) rfl rfl ?_
  refine RunD.op (ok_move rfl (fun _ => rfl)) rfl rfl ?_
  refine RunD.op (ok_fldO rfl (fun _ => rfl)) rfl rfl ?_
  refine RunD.op (ok_ldB rfl (fun _ => rfl) rfl) rfl rfl ?_
  refine RunD.op (ok_move rfl (fun _ => rfl)) rfl rfl ?_
  first | refine RunD.op (ok_idxN rfl (fun _ => rfl) rfl (fun _ => rfl) rfl (fun _ => by omega)) rfl rfl ?_ | refine RunD.op (ok_idxP rfl (fun _ => rfl) rfl (fun _ => rfl) rfl (fun _ => by omega)) rfl rfl ?_
  refine RunD.op (ok_ldP rfl (fun _ => rfl) rfl) rfl rfl ?_
  first | refine RunD.op (ok_idxEN rfl (fun _ => rfl) rfl (fun _ => rfl) (fun _ => by omega)) rfl rfl ?_ | refine RunD.op (ok_idxE rfl (fun _ => rfl) rfl (fun _ => rfl) (fun _ => by omega)) rfl rfl ?_
  refine RunD.op (ok_ldE rfl (fun _ => rfl) rfl rfl rfl) rfl rfl ?_
  refine RunD.op (ok_subW rfl (fun _ => rfl) rfl (fun _ => rfl)) rfl rfl ?_
  refine RunD.z ?_
  first | refine TrL.op (ok_idxEN rfl (fun _ => rfl) rfl (fun _ => rfl) (fun _ => by omega)) rfl rfl ?_ | refine TrL.op (ok_idxE rfl (fun _ => rfl) rfl (fun _ => rfl) (fun _ => by omega)) rfl rfl ?_
  refine TrL.stE rfl rfl rfl rfl rfl ?_
  refine TrL.fin ?_
  refine End.nxt ?_
  refine Tr.seq ?_
  refine Tr.draw 13 mixed (by kernel_rfl) ?_
  refine RunD.op (ok_move rfl (fun _ => rfl)) rfl rfl ?_
  refine RunD.op (ok_fldO rfl (fun _ => rfl)) rfl rfl ?_
  refine RunD.op (ok_ldB rfl (fun _ => rfl) rfl) rfl rfl ?_
  refine RunD.op (ok_move rfl (fun _ => rfl)) rfl rfl ?_
  refine RunD.op (ok_add rfl (fun _ => rfl) rfl (fun _ => rfl) (fun _ => by omega)) rfl rfl ?_
  refine RunD.op (ok_move rfl (fun _ => rfl)) rfl rfl ?_
  refine RunD.op (ok_fldO rfl (fun _ => rfl)) rfl rfl ?_
  refine RunD.op (ok_ldB rfl (fun _ => rfl) rfl) rfl rfl ?_
  refine RunD.op (ok_move rfl (fun _ => rfl)) rfl rfl ?_
  refine RunD.op (ok_add rfl (fun _ => rfl) rfl (fun _ => rfl) (fun _ => by omega)) rfl rfl ?_
  first | refine RunD.op (ok_idxEN rfl (fun _ => rfl) rfl (fun _ => rfl) (fun _ => by omega)) rfl rfl ?_ | refine RunD.op (ok_idxE rfl (fun _ => rfl) rfl (fun _ => rfl) (fun _ => by omega)) rfl rfl ?_
  refine RunD.op (ok_ldE rfl (fun _ => rfl) rfl rfl rfl) rfl rfl ?_
  refine RunD.op (ok_subW rfl (fun _ => rfl) rfl (fun _ => rfl)) rfl rfl ?_
  refine RunD.z ?_
  first | refine TrL.op (ok_idxEN rfl (fun _ => rfl) rfl (fun _ => rfl) (fun _ => by omega)) rfl rfl ?_ | refine TrL.op (ok_idxE rfl (fun _ => rfl) rfl (fun _ => rfl) (fun _ => by omega)) rfl rfl ?_
  refine TrL.stE rfl rfl rfl rfl rfl ?_
  refine TrL.fin ?_
  refine End.nxt ?_
  refine Tr.seq ?_
  refine Tr.rg ?_
  refine TrL.op (ok_move rfl (fun _ => rfl)) rfl rfl ?_
  refine TrL.op (ok_assign rfl (fun _ => rfl)) rfl rfl ?_
  refine TrL.fin ?_
  refine End.nxt ?_
  refine Tr.frz 9 [4] ⟨rfl, trivial⟩ (by simp only [lenMax]; omega) rfl ?_
  refine Tr.ret ?_
  exact Rts.res1 (fn := Tryd.f38) rfl (.r rfl (sqL_eq v (by omega) (by omega) (by rw [show ((2 : Int) * o.1.length).toNat = 2 * o.1.length by omega]) rfl rfl rfl rfl rfl rfl rfl rfl) <| .nil)

set_option maxRecDepth 100000 in
set_option maxHeartbeats 1000000 in
theorem ct_rIntersect (o : Ori) (a b : List Int) (v : Valid o) (ha : a.length = 2 * o.1.length) (hb : b.length = 2 * o.1.length) : Ct Tryd.prog 32 [kRd eLand (landOf o), kRd (eL eI) a, kRd (eL eI) b] (kI (W (isI o a b))) := by
  have hv0 := v.pos
  have hv1 := v.len
  have hv2 := v.le
  have hl1 := invL_len o.1
  have hl2 := invL_len o.2
  have hl3 := vertL_len (o := o)
  have hl4 := vtx_le (o := o)
  have P := v.pC
  refine Ct.mk Tryd.func32 rfl Tryd.ntmps32 rfl (fun w J => ?_)
  refine Tr.seq ?_
  refine Tr.rg ?_
  refine TrL.new (ok_box 3 rfl (fun _ => rfl) rfl) rfl rfl rfl rfl ?_
  refine TrL.op (ok_assign rfl (fun _ => rfl)) rfl rfl ?_
  refine TrL.fin ?_
  refine End.nxt ?_
  refine Tr.seq ?_
  refine Tr.rg ?_
  refine TrL.op (ok_fldO rfl (fun _ => rfl)) rfl rfl ?_
  refine TrL.op (ok_ldB rfl (fun _ => rfl) rfl) rfl rfl ?_
  refine TrL.op (ok_assign rfl (fun _ => rfl)) rfl rfl ?_
  refine TrL.fin ?_
  refine End.nxt ?_
  refine Tr.seq ?_
  refine Tr.rg ?_
  refine TrL.op (ok_assign rfl (fun _ => rfl)) rfl rfl ?_
  refine TrL.fin ?_
  refine End.nxt ?_
  refine Tr.seq ?_
  refine Tr.rg ?_
  refine TrL.op (ok_move rfl (fun _ => rfl)) rfl rfl ?_
  refine TrL.new (ok_makeN eI 20 rfl (fun _ => rfl) rfl (fun _ => rfl) rfl rfl rfl (fun _ => by omega)) rfl rfl rfl rfl ?_
  refine TrL.op (ok_assign rfl (fun _ => rfl)) rfl rfl ?_
  refine TrL.fin ?_
  refine End.nxt ?_
  refine Tr.seq ?_
  refine Tr.seq ?_
  refine Tr.rg ?_
  refine TrL.op (ok_assign rfl (fun _ => rfl)) rfl rfl ?_
  refine TrL.fin ?_
  refine End.nxt ?_
  refine Tr.for1 (σ := Nat) [⟨1, true, _, _⟩, ⟨2, true, _, _⟩, ⟨3, true, _, _⟩, ⟨7, true, _, _⟩, ⟨9, true, _, _⟩] [⟨3, _, _⟩] (fun k => [⟨10, true, [], kI (k : Int)⟩, ⟨8, true, [], kI (W (is1 o a b k))⟩]) (fun k => [⟨20, [], cArr false 3 eI (excT o b k) o.1.length⟩]) (fun k => k ≤ o.1.length) (fun k => k = o.1.length) (fun k => o.1.length - k) (0) (Nat.zero_le _) (Ent.mk (.i rfl (by first | rfl | omega | (simp; done) | (simp; omega) | assumption) <| .i rfl (by first | rfl | omega | (simp; done) | (simp; omega) | assumption) <| .k rfl rfl <| .k rfl rfl <| .k rfl rfl <| .k rfl rfl <| .k rfl rfl <| .nil) (.a excT_zero (by first | rfl | omega | (simp; done) | (simp; omega) | assumption) <| .k rfl <| .nil) rfl) ?_ ?_
  · intro k hR0
    refine Tr.norm (S' := [⟨10, true, _, _⟩, ⟨8, true, _, _⟩, ⟨1, true, _, _⟩, ⟨2, true, _, _⟩, ⟨3, true, _, _⟩, ⟨7, true, _, _⟩, ⟨9, true, _, _⟩]) (M' := [⟨20, _, _⟩, ⟨3, _, _⟩]) rfl rfl ?_
    refine Tr.seq ?_
    refine Tr.seq ?_
    refine Tr.rg ?_
    refine TrL.op (ok_move rfl (fun _ => rfl)) rfl rfl ?_
    refine TrL.op (ok_move rfl (fun _ => rfl)) rfl rfl ?_
    refine TrL.op (ok_lss rfl (fun _ => rfl) rfl (fun _ => rfl)) rfl rfl ?_
    refine TrL.fin ?_
    refine End.nxt ?_
    refine Tr.cnd rfl ?_ ?_
    · intro h5
      replace h5 := of_decide_eq_true h5
      refine Tr.skip ?_
      refine End.nxt ?_
      refine Tr.seq ?_
      refine Tr.blk ?_
      refine Tr.seq ?_
      refine Tr.draw 11 mixed (by kernel_rfl) ?_
      have a1 := v.ri (i := k) (by omega)
      have a2 := v.ui (i := k) (by omega)
      refine RunD.op (ok_fldO rfl (fun _ => rfl)) rfl rfl ?_
      refine RunD.op (ok_ldB rfl (fun _ => rfl) rfl) rfl rfl ?_
      refine RunD.op (ok_move rfl (fun _ => rfl)) rfl rfl ?_
      first | refine RunD.op (ok_idxN rfl (fun _ => rfl) rfl (fun _ => rfl) rfl (fun _ => by omega)) rfl rfl ?_ | refine RunD.op (ok_idxP rfl (fun _ => rfl) rfl (fun _ => rfl) rfl (fun _ => by omega)) rfl rfl ?_
      refine RunD.op (ok_ldP rfl (fun _ => rfl) rfl) rfl rfl ?_
      refine RunD.op (ok_fldO rfl (fun _ => rfl)) rfl rfl ?_
      refine RunD.op (ok_ldB rfl (fun _ => rfl) rfl) rfl rfl ?_
      refine RunD.op (ok_move rfl (fun _ => rfl)) rfl rfl ?_
      first | refine RunD.op (ok_idxN rfl (fun _ => rfl) rfl (fun _ => rfl) rfl (fun _ => by omega)) rfl rfl ?_ | refine RunD.op (ok_idxP rfl (fun _ => rfl) rfl (fun _ => rfl) rfl (fun _ => by omega)) rfl rfl ?_
      refine RunD.op (ok_ldP rfl (fun _ => rfl) rfl) rfl rfl ?_
      refine RunD.op (ok_assign rfl (fun _ => rfl)) rfl rfl ?_
      refine RunD.z ?_
      refine TrL.op (ok_assign rfl (fun _ => rfl)) rfl rfl ?_
      refine TrL.fin ?_
      refine End.nxt ?_
      refine Tr.seq ?_
      refine Tr.draw 24 mixed (by kernel_rfl) ?_
      refine RunD.op (ok_move rfl (fun _ => rfl)) rfl rfl ?_
      refine RunD.op (ok_move rfl (fun _ => rfl)) rfl rfl ?_
      refine RunD.op (ok_move rfl (fun _ => rfl)) rfl rfl ?_
      first | refine RunD.op (ok_idxN rfl (fun _ => rfl) rfl (fun _ => rfl) rfl (fun _ => by omega)) rfl rfl ?_ | refine RunD.op (ok_idxP rfl (fun _ => rfl) rfl (fun _ => rfl) rfl (fun _ => by omega)) rfl rfl ?_
      refine RunD.op (ok_ldP rfl (fun _ => rfl) rfl) rfl rfl ?_
      refine RunD.op (ok_move rfl (fun _ => rfl)) rfl rfl ?_
      refine RunD.op (ok_move rfl (fun _ => rfl)) rfl rfl ?_
      refine RunD.op (ok_move rfl (fun _ => rfl)) rfl rfl ?_
      refine RunD.op (ok_add rfl (fun _ => rfl) rfl (fun _ => rfl) (fun _ => by omega)) rfl rfl ?_
      first | refine RunD.op (ok_idxN rfl (fun _ => rfl) rfl (fun _ => rfl) rfl (fun _ => by omega)) rfl rfl ?_ | refine RunD.op (ok_idxP rfl (fun _ => rfl) rfl (fun _ => rfl) rfl (fun _ => by omega)) rfl rfl ?_
      refine RunD.op (ok_ldP rfl (fun _ => rfl) rfl) rfl rfl ?_
      refine RunD.op (ok_mulW rfl (fun _ => rfl) rfl (fun _ => rfl)) rfl rfl ?_
      refine RunD.op (ok_subW rfl (fun _ => rfl) rfl (fun _ => rfl)) rfl rfl ?_
      refine RunD.op (ok_move rfl (fun _ => rfl)) rfl rfl ?_
      refine RunD.op (ok_move rfl (fun _ => rfl)) rfl rfl ?_
      refine RunD.op (ok_move rfl (fun _ => rfl)) rfl rfl ?_
      refine RunD.op (ok_add rfl (fun _ => rfl) rfl (fun _ => rfl) (fun _ => by omega)) rfl rfl ?_
      first | refine RunD.op (ok_idxN rfl (fun _ => rfl) rfl (fun _ => rfl) rfl (fun _ => by omega)) rfl rfl ?_ | refine RunD.op (ok_idxP rfl (fun _ => rfl) rfl (fun _ => rfl) rfl (fun _ => by omega)) rfl rfl ?_
      refine RunD.op (ok_ldP rfl (fun _ => rfl) rfl) rfl rfl ?_
      refine RunD.op (ok_move rfl (fun _ => rfl)) rfl rfl ?_
      refine RunD.op (ok_move rfl (fun _ => rfl)) rfl rfl ?_
      first | refine RunD.op (ok_idxN rfl (fun _ => rfl) rfl (fun _ => rfl) rfl (fun _ => by omega)) rfl rfl ?_ | refine RunD.op (ok_idxP rfl (fun _ => rfl) rfl (fun _ => rfl) rfl (fun _ => by omega)) rfl rfl ?_
      refine RunD.op (ok_ldP rfl (fun _ => rfl) rfl) rfl rfl ?_
      refine RunD.op (ok_mulW rfl (fun _ => rfl) rfl (fun _ => rfl)) rfl rfl ?_
      refine RunD.z ?_
      refine TrL.op (ok_addW rfl (fun _ => rfl) rfl (fun _ => rfl)) rfl rfl ?_
      refine TrL.op (ok_assign rfl (fun _ => rfl)) rfl rfl ?_
      refine TrL.fin ?_
      refine End.nxt ?_
      refine Tr.seq ?_
      refine Tr.draw 11 mixed (by kernel_rfl) ?_
      refine RunD.op (ok_move rfl (fun _ => rfl)) rfl rfl ?_
      refine RunD.op (ok_move rfl (fun _ => rfl)) rfl rfl ?_
      refine RunD.op (ok_move rfl (fun _ => rfl)) rfl rfl ?_
      refine RunD.op (ok_move rfl (fun _ => rfl)) rfl rfl ?_
      first | refine RunD.op (ok_idxEN rfl (fun _ => rfl) rfl (fun _ => rfl) (fun _ => by omega)) rfl rfl ?_ | refine RunD.op (ok_idxE rfl (fun _ => rfl) rfl (fun _ => rfl) (fun _ => by omega)) rfl rfl ?_
      refine RunD.op (ok_ldE rfl (fun _ => rfl) rfl rfl rfl) rfl rfl ?_
      refine RunD.op (ok_move rfl (fun _ => rfl)) rfl rfl ?_
      refine RunD.op (ok_move rfl (fun _ => rfl)) rfl rfl ?_
      first | refine RunD.op (ok_idxN rfl (fun _ => rfl) rfl (fun _ => rfl) rfl (fun _ => by omega)) rfl rfl ?_ | refine RunD.op (ok_idxP rfl (fun _ => rfl) rfl (fun _ => rfl) rfl (fun _ => by omega)) rfl rfl ?_
      refine RunD.op (ok_ldP rfl (fun _ => rfl) rfl) rfl rfl ?_
      refine RunD.op (ok_addW rfl (fun _ => rfl) rfl (fun _ => rfl)) rfl rfl ?_
      refine RunD.z ?_
      first | refine TrL.op (ok_idxEN rfl (fun _ => rfl) rfl (fun _ => rfl) (fun _ => by omega)) rfl rfl ?_ | refine TrL.op (ok_idxE rfl (fun _ => rfl) rfl (fun _ => rfl) (fun _ => by omega)) rfl rfl ?_
      refine TrL.stE rfl rfl rfl rfl rfl ?_
      refine TrL.fin ?_
      refine End.nxt ?_
      refine Tr.seq ?_
      refine Tr.draw 11 mixed (by kernel_rfl) ?_
      refine RunD.op (ok_move rfl (fun _ => rfl)) rfl rfl ?_
      refine RunD.op (ok_move rfl (fun _ => rfl)) rfl rfl ?_
      refine RunD.op (ok_move rfl (fun _ => rfl)) rfl rfl ?_
      refine RunD.op (ok_move rfl (fun _ => rfl)) rfl rfl ?_
      first | refine RunD.op (ok_idxEN rfl (fun _ => rfl) rfl (fun _ => rfl) (fun _ => by omega)) rfl rfl ?_ | refine RunD.op (ok_idxE rfl (fun _ => rfl) rfl (fun _ => rfl) (fun _ => by omega)) rfl rfl ?_
      refine RunD.op (ok_ldE rfl (fun _ => rfl) rfl rfl rfl) rfl rfl ?_
      refine RunD.op (ok_move rfl (fun _ => rfl)) rfl rfl ?_
      refine RunD.op (ok_move rfl (fun _ => rfl)) rfl rfl ?_
      first | refine RunD.op (ok_idxN rfl (fun _ => rfl) rfl (fun _ => rfl) rfl (fun _ => by omega)) rfl rfl ?_ | refine RunD.op (ok_idxP rfl (fun _ => rfl) rfl (fun _ => rfl) rfl (fun _ => by omega)) rfl rfl ?_
      refine RunD.op (ok_ldP rfl (fun _ => rfl) rfl) rfl rfl ?_
      refine RunD.op (ok_subW rfl (fun _ => rfl) rfl (fun _ => rfl)) rfl rfl ?_
      refine RunD.z ?_
      first | refine TrL.op (ok_idxEN rfl (fun _ => rfl) rfl (fun _ => rfl) (fun _ => by omega)) rfl rfl ?_ | refine TrL.op (ok_idxE rfl (fun _ => rfl) rfl (fun _ => rfl) (fun _ => by omega)) rfl rfl ?_
      refine TrL.stE rfl rfl rfl rfl rfl ?_
      refine TrL.fin ?_
      refine End.nxt ?_
      refine Tr.seq ?_
      refine Tr.draw 13 mixed (by kernel_rfl) ?_
      refine RunD.op (ok_move rfl (fun _ => rfl)) rfl rfl ?_
      refine RunD.op (ok_move rfl (fun _ => rfl)) rfl rfl ?_
      refine RunD.op (ok_move rfl (fun _ => rfl)) rfl rfl ?_
      refine RunD.op (ok_move rfl (fun _ => rfl)) rfl rfl ?_
      first | refine RunD.op (ok_idxEN rfl (fun _ => rfl) rfl (fun _ => rfl) (fun _ => by omega)) rfl rfl ?_ | refine RunD.op (ok_idxE rfl (fun _ => rfl) rfl (fun _ => rfl) (fun _ => by omega)) rfl rfl ?_
      refine RunD.op (ok_ldE rfl (fun _ => rfl) rfl rfl rfl) rfl rfl ?_
      refine RunD.op (ok_move rfl (fun _ => rfl)) rfl rfl ?_
      refine RunD.op (ok_move rfl (fun _ => rfl)) rfl rfl ?_
      refine RunD.op (ok_move rfl (fun _ => rfl)) rfl rfl ?_
      refine RunD.op (ok_add rfl (fun _ => rfl) rfl (fun _ => rfl) (fun _ => by omega)) rfl rfl ?_
      first | refine RunD.op (ok_idxN rfl (fun _ => rfl) rfl (fun _ => rfl) rfl (fun _ => by omega)) rfl rfl ?_ | refine RunD.op (ok_idxP rfl (fun _ => rfl) rfl (fun _ => rfl) rfl (fun _ => by omega)) rfl rfl ?_
      refine RunD.op (ok_ldP rfl (fun _ => rfl) rfl) rfl rfl ?_
      refine RunD.op (ok_addW rfl (fun _ => rfl) rfl (fun _ => rfl)) rfl rfl ?_
      refine RunD.z ?_
      first | refine TrL.op (ok_idxEN rfl (fun _ => rfl) rfl (fun _ => rfl) (fun _ => by omega)) rfl rfl ?_ | refine TrL.op (ok_idxE rfl (fun _ => rfl) rfl (fun _ => rfl) (fun _ => by omega)) rfl rfl ?_
      refine TrL.stE rfl rfl rfl rfl rfl ?_
      refine TrL.fin ?_
      refine End.nxt ?_
      refine Tr.draw 13 mixed (by kernel_rfl) ?_
      refine RunD.op (ok_move rfl (fun _ => rfl)) rfl rfl ?_
      refine RunD.op (ok_move rfl (fun _ => rfl)) rfl rfl ?_
      refine RunD.op (ok_move rfl (fun _ => rfl)) rfl rfl ?_
      refine RunD.op (ok_move rfl (fun _ => rfl)) rfl rfl ?_
      first | refine RunD.op (ok_idxEN rfl (fun _ => rfl) rfl (fun _ => rfl) (fun _ => by omega)) rfl rfl ?_ | refine RunD.op (ok_idxE rfl (fun _ => rfl) rfl (fun _ => rfl) (fun _ => by omega)) rfl rfl ?_
      refine RunD.op (ok_ldE rfl (fun _ => rfl) rfl rfl rfl) rfl rfl ?_
      refine RunD.op (ok_move rfl (fun _ => rfl)) rfl rfl ?_
      refine RunD.op (ok_move rfl (fun _ => rfl)) rfl rfl ?_
      refine RunD.op (ok_move rfl (fun _ => rfl)) rfl rfl ?_
      refine RunD.op (ok_add rfl (fun _ => rfl) rfl (fun _ => rfl) (fun _ => by omega)) rfl rfl ?_
      first | refine RunD.op (ok_idxN rfl (fun _ => rfl) rfl (fun _ => rfl) rfl (fun _ => by omega)) rfl rfl ?_ | refine RunD.op (ok_idxP rfl (fun _ => rfl) rfl (fun _ => rfl) rfl (fun _ => by omega)) rfl rfl ?_
      refine RunD.op (ok_ldP rfl (fun _ => rfl) rfl) rfl rfl ?_
      refine RunD.op (ok_subW rfl (fun _ => rfl) rfl (fun _ => rfl)) rfl rfl ?_
      refine RunD.z ?_
      first | refine TrL.op (ok_idxEN rfl (fun _ => rfl) rfl (fun _ => rfl) (fun _ => by omega)) rfl rfl ?_ | refine TrL.op (ok_idxE rfl (fun _ => rfl) rfl (fun _ => rfl) (fun _ => by omega)) rfl rfl ?_
      refine TrL.stE rfl rfl rfl rfl rfl ?_
      refine TrL.fin ?_
      refine End.blk ?_
      refine End.nxt ?_
      refine Tr.rg ?_
      refine TrL.op (ok_move rfl (fun _ => rfl)) rfl rfl ?_
      refine TrL.op (ok_add rfl (fun _ => rfl) rfl (fun _ => rfl) (fun _ => by omega)) rfl rfl ?_
      refine TrL.op (ok_assign rfl (fun _ => rfl)) rfl rfl ?_
      refine TrL.fin ?_
      exact End.lp (k + 1) (by first | rfl | omega | (simp; done) | (simp; omega) | assumption) (by omega) (Ent.mk (.i rfl (by first | rfl | omega | (simp; done) | (simp; omega) | assumption) <| .i rfl is1_ref <| .k rfl rfl <| .k rfl rfl <| .k rfl rfl <| .k rfl rfl <| .k rfl rfl <| .nil) (.a (excT_ref v (by omega) rfl rfl rfl rfl rfl rfl rfl rfl) (by first | rfl | omega | (simp; done) | (simp; omega) | assumption) <| .k rfl <| .nil) rfl)
    · intro h5
      replace h5 := Int.not_lt.1 (of_decide_eq_false h5)
      refine Tr.exit ?_
      refine Exs.thn ?_
      refine Exs.thn ?_
      refine Exs.here ?_
      exact End.cut (k) (by omega) (Ent.mk (.i rfl (by first | rfl | omega | (simp; done) | (simp; omega) | assumption) <| .i rfl (by first | rfl | omega | (simp; done) | (simp; omega) | assumption) <| .k rfl rfl <| .k rfl rfl <| .k rfl rfl <| .k rfl rfl <| .k rfl rfl <| .nil) (.a (by first | rfl | omega | (simp; done) | (simp; omega) | assumption) (by first | rfl | omega | (simp; done) | (simp; omega) | assumption) <| .k rfl <| .nil) rfl)
  · rintro _ rfl
    refine End.norm (S' := [⟨10, true, _, _⟩, ⟨8, true, _, _⟩, ⟨1, true, _, _⟩, ⟨2, true, _, _⟩, ⟨3, true, _, _⟩, ⟨7, true, _, _⟩, ⟨9, true, _, _⟩]) (M' := [⟨20, _, _⟩, ⟨3, _, _⟩]) rfl rfl ?_
    refine End.nxt ?_
    refine Tr.seq ?_
    refine Tr.seq ?_
    refine Tr.rg ?_
    refine TrL.op (ok_assign rfl (fun _ => rfl)) rfl rfl ?_
    refine TrL.fin ?_
    refine End.nxt ?_
    refine Tr.for1 (σ := Nat) [⟨1, true, _, _⟩, ⟨3, true, _, _⟩, ⟨7, true, _, _⟩, ⟨9, true, _, _⟩] [⟨3, _, _⟩, ⟨20, _, _⟩] (fun k => [⟨13, true, [], kI (k : Int)⟩, ⟨8, true, [], kI (W (is1 o a b o.1.length + isT o a b (cycs (comm o) k).length))⟩]) (fun k => []) (fun k => k ≤ o.1.length) (fun k => k = o.1.length) (fun k => o.1.length - k) (0) (Nat.zero_le _) (Ent.mk (.i rfl (by first | rfl | omega | (simp; done) | (simp; omega) | assumption) <| .i rfl (by rw [show isT o a b (cycs (comm o) 0).length = 0 from rfl, Int.add_zero]) <| .k rfl rfl <| .k rfl rfl <| .k rfl rfl <| .k rfl rfl <| .nil) (.k rfl <| .k rfl <| .nil) rfl) ?_ ?_
    · intro k hR1
      refine Tr.norm (S' := [⟨13, true, _, _⟩, ⟨8, true, _, _⟩, ⟨1, true, _, _⟩, ⟨3, true, _, _⟩, ⟨7, true, _, _⟩, ⟨9, true, _, _⟩]) (M' := [⟨3, _, _⟩, ⟨20, _, _⟩]) rfl rfl ?_
      refine Tr.seq ?_
      refine Tr.seq ?_
      refine Tr.rg ?_
      refine TrL.op (ok_move rfl (fun _ => rfl)) rfl rfl ?_
      refine TrL.op (ok_move rfl (fun _ => rfl)) rfl rfl ?_
      refine TrL.op (ok_lss rfl (fun _ => rfl) rfl (fun _ => rfl)) rfl rfl ?_
      refine TrL.fin ?_
      refine End.nxt ?_
      refine Tr.cnd rfl ?_ ?_
      · intro h14
        replace h14 := of_decide_eq_true h14
        refine Tr.skip ?_
        refine End.nxt ?_
        refine Tr.seq ?_
        refine Tr.blk ?_
        refine Tr.seq ?_
        refine Tr.seq ?_
        refine Tr.draw 9 mixed (by kernel_rfl) ?_
        have a3 := vertL_rng v (i := k) (by omega)
        refine RunD.op (ok_fldO rfl (fun _ => rfl)) rfl rfl ?_
        refine RunD.op (ok_ldB rfl (fun _ => rfl) rfl) rfl rfl ?_
        refine RunD.op (ok_fldO rfl (fun _ => rfl)) rfl rfl ?_
        refine RunD.op (ok_ldB rfl (fun _ => rfl) rfl) rfl rfl ?_
        refine RunD.op (ok_move rfl (fun _ => rfl)) rfl rfl ?_
        first | refine RunD.op (ok_idxN rfl (fun _ => rfl) rfl (fun _ => rfl) rfl (fun _ => by omega)) rfl rfl ?_ | refine RunD.op (ok_idxP rfl (fun _ => rfl) rfl (fun _ => rfl) rfl (fun _ => by omega)) rfl rfl ?_
        refine RunD.op (ok_ldP rfl (fun _ => rfl) rfl) rfl rfl ?_
        refine RunD.op (ok_call (fun hp => ct_rfirst _ _ (nth_mem (by omega))) (.a rfl (fun _ => rfl) <| .a rfl (fun _ => rfl) <| .nil)) rfl rfl ?_
        refine RunD.op (ok_move rfl (fun _ => rfl)) rfl rfl ?_
        refine RunD.z ?_
        refine TrL.op (ok_neq rfl (fun _ => rfl) rfl (fun _ => rfl)) rfl rfl ?_
        refine TrL.fin ?_
        refine End.nxt ?_
        refine Tr.cnd rfl ?_ ?_
        · intro h16
          replace h16 := of_decide_eq_true h16
          have hlow : low (comm o) k = false := (by (cases hh : low (comm o) k; rfl; exact absurd ((first_low v (by omega)).2 hh) h16))
          refine Tr.exit ?_
          refine Exs.thn ?_
          refine Exs.here ?_
          refine End.nxt ?_
          refine Tr.rg ?_
          refine TrL.op (ok_move rfl (fun _ => rfl)) rfl rfl ?_
          refine TrL.op (ok_add rfl (fun _ => rfl) rfl (fun _ => rfl) (fun _ => by omega)) rfl rfl ?_
          refine TrL.op (ok_assign rfl (fun _ => rfl)) rfl rfl ?_
          refine TrL.fin ?_
          exact End.lp (k + 1) (by first | rfl | omega | (simp; done) | (simp; omega) | assumption) (by omega) (Ent.mk (.i rfl (by first | rfl | omega | (simp; done) | (simp; omega) | assumption) <| .i rfl (by rw [P.cycs_same (by omega) hlow]) <| .k rfl rfl <| .k rfl rfl <| .k rfl rfl <| .k rfl rfl <| .nil) (.k rfl <| .k rfl <| .nil) rfl)
        · intro h16
          replace h16 := Classical.not_not.1 (of_decide_eq_false h16)
          have hlow := (first_low v (by omega)).1 h16
          have hk : Sq o.1.length (k : Int) := Sq.nat (by omega)
          refine Tr.skip ?_
          refine End.nxt ?_
          refine Tr.seq ?_
          refine Tr.rg ?_
          refine TrL.op (ok_assign rfl (fun _ => rfl)) rfl rfl ?_
          refine TrL.fin ?_
          refine End.nxt ?_
          refine Tr.seq ?_
          refine Tr.rg ?_
          refine TrL.op (ok_move rfl (fun _ => rfl)) rfl rfl ?_
          refine TrL.op (ok_assign rfl (fun _ => rfl)) rfl rfl ?_
          refine TrL.fin ?_
          refine End.nxt ?_
          refine Tr.for1 (σ := Nat × Int) [⟨1, true, _, _⟩, ⟨3, true, _, _⟩, ⟨7, true, _, _⟩, ⟨9, true, _, _⟩, ⟨13, true, _, _⟩] [⟨3, _, _⟩, ⟨20, _, _⟩] (fun (m, x) => [⟨8, true, [], kI (W (is1 o a b o.1.length + isT o a b (cycs (comm o) k).length + is2 o a b (orb (comm o) k) m))⟩, ⟨14, true, [], kI (W (isz o b (orb (comm o) k) m))⟩, ⟨15, true, [], kI x⟩]) (fun (m, x) => []) (fun (m, x) => m < (orb (comm o) k).length ∧ x = nth (orb (comm o) k) m) (fun (m, x) => m = (orb (comm o) k).length) (fun (m, x) => (orb (comm o) k).length - m) ((0, (k : Int))) ⟨by (rw [orb_len]; exact (P.pers hk).2.1), (nth_orb (P.pers hk).2.1).symm⟩ (Ent.mk (.i rfl (by rw [show is2 o a b (orb (comm o) k) 0 = 0 from rfl, Int.add_zero]) <| .i rfl (by rfl) <| .i rfl (by first | rfl | omega | (simp; done) | (simp; omega) | assumption) <| .k rfl rfl <| .k rfl rfl <| .k rfl rfl <| .k rfl rfl <| .k rfl rfl <| .nil) (.k rfl <| .k rfl <| .nil) rfl) ?_ ?_
          · rintro ⟨m, x⟩ ⟨hm, rfl⟩
            refine Tr.norm (S' := [⟨8, true, _, _⟩, ⟨14, true, _, _⟩, ⟨15, true, _, _⟩, ⟨1, true, _, _⟩, ⟨3, true, _, _⟩, ⟨7, true, _, _⟩, ⟨9, true, _, _⟩, ⟨13, true, _, _⟩]) (M' := [⟨3, _, _⟩, ⟨20, _, _⟩]) rfl rfl ?_
            have hx := P.orb_rng hk (nth_mem hm)
            have hxr : 0 ≤ nth (orb (comm o) k) m ∧ nth (orb (comm o) k) m < o.1.length := hx
            have hnx : turnF o (nth (orb (comm o) k) m) = nxt (orb (comm o) k) m := (turnF_comm hx.1 hx.2).trans (P.orb_next hk hm)
            have hb0 := orb_back0 P hk hm
            rw [← turnF_comm hx.1 hx.2] at hb0
            have hz := invR v (i := (nth (orb (comm o) k) m).toNat) (by omega)
            have hy : 0 ≤ turnF o (nth (orb (comm o) k) m) ∧ turnF o (nth (orb (comm o) k) m) < o.1.length := turnF_rng v hx.1 hx.2
            have hq := invU v (i := (turnF o (nth (orb (comm o) k) m)).toNat) (by omega)
            refine Tr.blk ?_
            refine Tr.seq ?_
            refine Tr.rg ?_
            refine TrL.op (ok_move rfl (fun _ => rfl)) rfl rfl ?_
            refine TrL.op (ok_move rfl (fun _ => rfl)) rfl rfl ?_
            refine TrL.op (ok_move rfl (fun _ => rfl)) rfl rfl ?_
            first | refine TrL.op (ok_idxEN rfl (fun _ => rfl) rfl (fun _ => rfl) (fun _ => by omega)) rfl rfl ?_ | refine TrL.op (ok_idxE rfl (fun _ => rfl) rfl (fun _ => rfl) (fun _ => by omega)) rfl rfl ?_
            refine TrL.op (ok_ldE rfl (fun _ => rfl) rfl rfl rfl) rfl rfl ?_
            refine TrL.op (ok_addW rfl (fun _ => rfl) rfl (fun _ => rfl)) rfl rfl ?_
            refine TrL.op (ok_assign rfl (fun _ => rfl)) rfl rfl ?_
            refine TrL.fin ?_
            refine End.nxt ?_
            refine Tr.seq ?_
            refine Tr.rg ?_
            refine TrL.op (ok_ldBS rfl (fun _ => rfl)) rfl rfl ?_
            refine TrL.op (ok_move rfl (fun _ => rfl)) rfl rfl ?_
            refine TrL.op (ok_call (fun hp => ct_rTurn _ _ v (by omega) (by omega)) (.s rfl (fun _ => rfl) rfl <| .a rfl (fun _ => rfl) <| .nil)) rfl rfl ?_
            refine TrL.op (ok_assign rfl (fun _ => rfl)) rfl rfl ?_
            refine TrL.fin ?_
            refine End.nxt ?_
            refine Tr.seq ?_
            refine Tr.draw 34 mixed (by kernel_rfl) ?_
            refine RunD.op (ok_move rfl (fun _ => rfl)) rfl rfl ?_
            refine RunD.op (ok_move rfl (fun _ => rfl)) rfl rfl ?_
            refine RunD.op (ok_move rfl (fun _ => rfl)) rfl rfl ?_
            refine RunD.op (ok_move rfl (fun _ => rfl)) rfl rfl ?_
            refine RunD.op (ok_move rfl (fun _ => rfl)) rfl rfl ?_
            refine RunD.op (ok_add rfl (fun _ => rfl) rfl (fun _ => rfl) (fun _ => by omega)) rfl rfl ?_
            first | refine RunD.op (ok_idxN rfl (fun _ => rfl) rfl (fun _ => rfl) rfl (fun _ => by omega)) rfl rfl ?_ | refine RunD.op (ok_idxP rfl (fun _ => rfl) rfl (fun _ => rfl) rfl (fun _ => by omega)) rfl rfl ?_
            refine RunD.op (ok_ldP rfl (fun _ => rfl) rfl) rfl rfl ?_
            refine RunD.op (ok_move rfl (fun _ => rfl)) rfl rfl ?_
            refine RunD.op (ok_fldO rfl (fun _ => rfl)) rfl rfl ?_
            refine RunD.op (ok_ldB rfl (fun _ => rfl) rfl) rfl rfl ?_
            refine RunD.op (ok_move rfl (fun _ => rfl)) rfl rfl ?_
            first | refine RunD.op (ok_idxN rfl (fun _ => rfl) rfl (fun _ => rfl) rfl (fun _ => by omega)) rfl rfl ?_ | refine RunD.op (ok_idxP rfl (fun _ => rfl) rfl (fun _ => rfl) rfl (fun _ => by omega)) rfl rfl ?_
            refine RunD.op (ok_ldP rfl (fun _ => rfl) rfl) rfl rfl ?_
            first | refine RunD.op (ok_idxN rfl (fun _ => rfl) rfl (fun _ => rfl) rfl (fun _ => by omega)) rfl rfl ?_ | refine RunD.op (ok_idxP rfl (fun _ => rfl) rfl (fun _ => rfl) rfl (fun _ => by omega)) rfl rfl ?_
            refine RunD.op (ok_ldP rfl (fun _ => rfl) rfl) rfl rfl ?_
            refine RunD.op (ok_subW rfl (fun _ => rfl) rfl (fun _ => rfl)) rfl rfl ?_
            refine RunD.op (ok_move rfl (fun _ => rfl)) rfl rfl ?_
            refine RunD.op (ok_move rfl (fun _ => rfl)) rfl rfl ?_
            refine RunD.op (ok_fldO rfl (fun _ => rfl)) rfl rfl ?_
            refine RunD.op (ok_ldB rfl (fun _ => rfl) rfl) rfl rfl ?_
            refine RunD.op (ok_move rfl (fun _ => rfl)) rfl rfl ?_
            first | refine RunD.op (ok_idxN rfl (fun _ => rfl) rfl (fun _ => rfl) rfl (fun _ => by omega)) rfl rfl ?_ | refine RunD.op (ok_idxP rfl (fun _ => rfl) rfl (fun _ => rfl) rfl (fun _ => by omega)) rfl rfl ?_
            refine RunD.op (ok_ldP rfl (fun _ => rfl) rfl) rfl rfl ?_
            refine RunD.op (ok_add rfl (fun _ => rfl) rfl (fun _ => rfl) (fun _ => by omega)) rfl rfl ?_
            first | refine RunD.op (ok_idxN rfl (fun _ => rfl) rfl (fun _ => rfl) rfl (fun _ => by omega)) rfl rfl ?_ | refine RunD.op (ok_idxP rfl (fun _ => rfl) rfl (fun _ => rfl) rfl (fun _ => by omega)) rfl rfl ?_
            refine RunD.op (ok_ldP rfl (fun _ => rfl) rfl) rfl rfl ?_
            refine RunD.op (ok_subW rfl (fun _ => rfl) rfl (fun _ => rfl)) rfl rfl ?_
            refine RunD.op (ok_move rfl (fun _ => rfl)) rfl rfl ?_
            refine RunD.op (ok_move rfl (fun _ => rfl)) rfl rfl ?_
            first | refine RunD.op (ok_idxN rfl (fun _ => rfl) rfl (fun _ => rfl) rfl (fun _ => by omega)) rfl rfl ?_ | refine RunD.op (ok_idxP rfl (fun _ => rfl) rfl (fun _ => rfl) rfl (fun _ => by omega)) rfl rfl ?_
            refine RunD.op (ok_ldP rfl (fun _ => rfl) rfl) rfl rfl ?_
            refine RunD.op (ok_addW rfl (fun _ => rfl) rfl (fun _ => rfl)) rfl rfl ?_
            refine RunD.op (ok_mulW rfl (fun _ => rfl) rfl (fun _ => rfl)) rfl rfl ?_
            refine RunD.z ?_
            refine TrL.op (ok_addW rfl (fun _ => rfl) rfl (fun _ => rfl)) rfl rfl ?_
            refine TrL.op (ok_assign rfl (fun _ => rfl)) rfl rfl ?_
            refine TrL.fin ?_
            refine End.nxt ?_
            refine Tr.seq ?_
            refine Tr.rg ?_
            refine TrL.op (ok_move rfl (fun _ => rfl)) rfl rfl ?_
            refine TrL.op (ok_assign rfl (fun _ => rfl)) rfl rfl ?_
            refine TrL.fin ?_
            refine End.nxt ?_
            refine Tr.seq ?_
            refine Tr.rg ?_
            refine TrL.op (ok_move rfl (fun _ => rfl)) rfl rfl ?_
            refine TrL.op (ok_move rfl (fun _ => rfl)) rfl rfl ?_
            refine TrL.op (ok_eql rfl (fun _ => rfl) rfl (fun _ => rfl)) rfl rfl ?_
            refine TrL.fin ?_
            refine End.nxt ?_
            refine Tr.cnd rfl ?_ ?_
            · intro h23
              replace h23 := of_decide_eq_true h23
              refine Tr.exit ?_
              refine Exs.out rfl ?_
              refine Exs.thn ?_
              refine Exs.here ?_
              exact End.cut ((m + 1, turnF o (nth (orb (comm o) k) m))) (hb0.1 h23) (Ent.mk (.i rfl (by rw [hnx]; exact is2_next hxr) <| .i rfl (isz_succ hxr) <| .i rfl (by first | rfl | omega | (simp; done) | (simp; omega) | assumption) <| .k rfl rfl <| .k rfl rfl <| .k rfl rfl <| .k rfl rfl <| .k rfl rfl <| .nil) (.k rfl <| .k rfl <| .nil) rfl)
            · intro h23
              replace h23 := of_decide_eq_false h23
              refine Tr.skip ?_
              refine End.blk ?_
              exact End.lp ((m + 1, turnF o (nth (orb (comm o) k) m))) ⟨by (have h23' := h23; rw [hb0] at h23'; omega), hnx.trans (by (show nth _ _ = _; rw [Nat.mod_eq_of_lt (by have h23' := h23; rw [hb0] at h23'; omega)]))⟩ (show (orb (comm o) k).length - (m + 1) < (orb (comm o) k).length - m by omega) (Ent.mk (.i rfl (by rw [hnx]; exact is2_next hxr) <| .i rfl (isz_succ hxr) <| .i rfl (by first | rfl | omega | (simp; done) | (simp; omega) | assumption) <| .k rfl rfl <| .k rfl rfl <| .k rfl rfl <| .k rfl rfl <| .k rfl rfl <| .nil) (.k rfl <| .k rfl <| .nil) rfl)
          · rintro ⟨m, x⟩ hE2
            refine End.norm (S' := [⟨8, true, _, _⟩, ⟨14, true, _, _⟩, ⟨15, true, _, _⟩, ⟨1, true, _, _⟩, ⟨3, true, _, _⟩, ⟨7, true, _, _⟩, ⟨9, true, _, _⟩, ⟨13, true, _, _⟩]) (M' := [⟨3, _, _⟩, ⟨20, _, _⟩]) rfl rfl ?_
            refine End.blk ?_
            refine End.nxt ?_
            refine Tr.rg ?_
            refine TrL.op (ok_move rfl (fun _ => rfl)) rfl rfl ?_
            refine TrL.op (ok_add rfl (fun _ => rfl) rfl (fun _ => rfl) (fun _ => by omega)) rfl rfl ?_
            refine TrL.op (ok_assign rfl (fun _ => rfl)) rfl rfl ?_
            refine TrL.fin ?_
            exact End.lp (k + 1) (by first | rfl | omega | (simp; done) | (simp; omega) | assumption) (by omega) (Ent.mk (.i rfl (by first | rfl | omega | (simp; done) | (simp; omega) | assumption) <| .i rfl (by rw [hE2]; exact isT_next v (by omega) hlow) <| .k rfl rfl <| .k rfl rfl <| .k rfl rfl <| .k rfl rfl <| .nil) (.k rfl <| .k rfl <| .nil) rfl)
      · intro h14
        replace h14 := Int.not_lt.1 (of_decide_eq_false h14)
        refine Tr.exit ?_
        refine Exs.thn ?_
        refine Exs.thn ?_
        refine Exs.here ?_
        exact End.cut (k) (by omega) (Ent.mk (.i rfl (by first | rfl | omega | (simp; done) | (simp; omega) | assumption) <| .i rfl (by first | rfl | omega | (simp; done) | (simp; omega) | assumption) <| .k rfl rfl <| .k rfl rfl <| .k rfl rfl <| .k rfl rfl <| .nil) (.k rfl <| .k rfl <| .nil) rfl)
    · rintro _ rfl
      refine End.norm (S' := [⟨13, true, _, _⟩, ⟨8, true, _, _⟩, ⟨1, true, _, _⟩, ⟨3, true, _, _⟩, ⟨7, true, _, _⟩, ⟨9, true, _, _⟩]) (M' := [⟨3, _, _⟩, ⟨20, _, _⟩]) rfl rfl ?_
      refine End.nxt ?_
      refine Tr.seq ?_
      refine Tr.rg ?_
      refine TrL.op (ok_move rfl (fun _ => rfl)) rfl rfl ?_
      refine TrL.op (ok_assign rfl (fun _ => rfl)) rfl rfl ?_
      refine TrL.fin ?_
      refine End.nxt ?_
      refine Tr.ret ?_
      exact Rts.res1 (fn := Tryd.f32) rfl (.i rfl (by first | rfl | omega | (simp; done) | (simp; omega) | assumption) <| .nil)

set_option maxRecDepth 100000 in
theorem ct_rGram (o : Ori) (l : List (List Int)) (v : Valid o) (hl : ∀ i, i < l.length → (nth l i).length = 2 * o.1.length) (hn : l.length ≤ 1000) : Ct Tryd.prog 34 [kRd eLand (landOf o), kRd (eL (eL eI)) l] (kRd (eL (eL eI)) (gramL o l)) := by
  refine Ct.mk Tryd.func34 rfl Tryd.ntmps34 rfl (fun w J => ?_)
  refine Tr.seq ?_
  refine Tr.rg ?_
  refine TrL.new (ok_box 2 rfl (fun _ => rfl) rfl) rfl rfl rfl rfl ?_
  refine TrL.op (ok_assign rfl (fun _ => rfl)) rfl rfl ?_
  refine TrL.fin ?_
  refine End.nxt ?_
  refine Tr.seq ?_
  refine Tr.rg ?_
  refine TrL.op (ok_assign rfl (fun _ => rfl)) rfl rfl ?_
  refine TrL.fin ?_
  refine End.nxt ?_
  refine Tr.seq ?_
  refine Tr.seq ?_
  refine Tr.rg ?_
  refine TrL.op (ok_assign rfl (fun _ => rfl)) rfl rfl ?_
  refine TrL.fin ?_
  refine End.nxt ?_
  refine Tr.grow (s := 5) rfl rfl 5 rfl 22 (eL eI) rfl ?_
  refine Tr.for1 (σ := Nat) [⟨1, true, _, _⟩, ⟨2, true, _, _⟩] [⟨2, _, _⟩] (fun k => [⟨6, true, [], kI (k : Int)⟩, ⟨5, true, [5], kOsl 5 k⟩]) (fun k => [⟨5, [], cArr true 22 (eL eI) (tab k (gramR o l)) k⟩]) (fun k => k ≤ l.length) (fun k => k = l.length) (fun k => l.length - k) (0) (Nat.zero_le _) (Ent.mk (.i rfl (by first | rfl | omega | (simp; done) | (simp; omega) | assumption) <| .o rfl (by first | rfl | omega | (simp; done) | (simp; omega) | assumption) rfl <| .k rfl rfl <| .k rfl rfl <| .nil) (.a (by rfl) (by first | rfl | omega | (simp; done) | (simp; omega) | assumption) <| .k rfl <| .nil) rfl) ?_ ?_
  · intro k hR0
    refine Tr.norm (S' := [⟨6, true, _, _⟩, ⟨5, true, _, _⟩, ⟨1, true, _, _⟩, ⟨2, true, _, _⟩]) (M' := [⟨5, _, _⟩, ⟨2, _, _⟩]) rfl rfl ?_
    refine Tr.seq ?_
    refine Tr.seq ?_
    refine Tr.rg ?_
    refine TrL.op (ok_move rfl (fun _ => rfl)) rfl rfl ?_
    refine TrL.op (ok_move rfl (fun _ => rfl)) rfl rfl ?_
    refine TrL.op (ok_lenJ rfl (fun _ => rfl)) rfl rfl ?_
    refine TrL.op (ok_lss rfl (fun _ => rfl) rfl (fun _ => rfl)) rfl rfl ?_
    refine TrL.fin ?_
    refine End.nxt ?_
    refine Tr.cnd rfl ?_ ?_
    · intro h3
      replace h3 := of_decide_eq_true h3
      refine Tr.skip ?_
      refine End.nxt ?_
      refine Tr.seq ?_
      refine Tr.blk ?_
      refine Tr.seq ?_
      refine Tr.rg ?_
      refine TrL.op (ok_assign rfl (fun _ => rfl)) rfl rfl ?_
      refine TrL.fin ?_
      refine End.nxt ?_
      refine Tr.seq ?_
      refine Tr.seq ?_
      refine Tr.rg ?_
      refine TrL.op (ok_assign rfl (fun _ => rfl)) rfl rfl ?_
      refine TrL.fin ?_
      refine End.nxt ?_
      refine Tr.grow (s := 7) rfl rfl 7 rfl 3 eI rfl ?_
      refine Tr.for1 (σ := Nat) [⟨1, true, _, _⟩, ⟨2, true, _, _⟩, ⟨5, true, _, _⟩, ⟨6, true, _, _⟩] [⟨2, _, _⟩, ⟨5, _, _⟩] (fun i => [⟨8, true, [], kI (i : Int)⟩, ⟨7, true, [7], kOsl 7 i⟩]) (fun i => [⟨7, [], cArr true 3 eI (tab i (fun i => W (isI o (nth l k) (nth l i)))) i⟩]) (fun i => i ≤ l.length) (fun i => i = l.length) (fun i => l.length - i) (0) (Nat.zero_le _) (Ent.mk (.i rfl (by first | rfl | omega | (simp; done) | (simp; omega) | assumption) <| .o rfl (by first | rfl | omega | (simp; done) | (simp; omega) | assumption) rfl <| .k rfl rfl <| .k rfl rfl <| .k rfl rfl <| .k rfl rfl <| .nil) (.a (by rfl) (by first | rfl | omega | (simp; done) | (simp; omega) | assumption) <| .k rfl <| .k rfl <| .nil) rfl) ?_ ?_
      · intro i hR1
        refine Tr.norm (S' := [⟨8, true, _, _⟩, ⟨7, true, _, _⟩, ⟨1, true, _, _⟩, ⟨2, true, _, _⟩, ⟨5, true, _, _⟩, ⟨6, true, _, _⟩]) (M' := [⟨7, _, _⟩, ⟨2, _, _⟩, ⟨5, _, _⟩]) rfl rfl ?_
        refine Tr.seq ?_
        refine Tr.seq ?_
        refine Tr.rg ?_
        refine TrL.op (ok_move rfl (fun _ => rfl)) rfl rfl ?_
        refine TrL.op (ok_move rfl (fun _ => rfl)) rfl rfl ?_
        refine TrL.op (ok_lenJ rfl (fun _ => rfl)) rfl rfl ?_
        refine TrL.op (ok_lss rfl (fun _ => rfl) rfl (fun _ => rfl)) rfl rfl ?_
        refine TrL.fin ?_
        refine End.nxt ?_
        refine Tr.cnd rfl ?_ ?_
        · intro h7
          replace h7 := of_decide_eq_true h7
          refine Tr.skip ?_
          refine End.nxt ?_
          refine Tr.seq ?_
          refine Tr.blk ?_
          refine Tr.draw 12 mixed (by kernel_rfl) ?_
          refine RunD.op (ok_move rfl (fun _ => rfl)) rfl rfl ?_
          refine RunD.op (ok_ldBS rfl (fun _ => rfl)) rfl rfl ?_
          refine RunD.op (ok_move rfl (fun _ => rfl)) rfl rfl ?_
          refine RunD.op (ok_move rfl (fun _ => rfl)) rfl rfl ?_
          first | refine RunD.op (ok_idxN rfl (fun _ => rfl) rfl (fun _ => rfl) rfl (fun _ => by omega)) rfl rfl ?_ | refine RunD.op (ok_idxP rfl (fun _ => rfl) rfl (fun _ => rfl) rfl (fun _ => by omega)) rfl rfl ?_
          refine RunD.op (ok_ldP rfl (fun _ => rfl) rfl) rfl rfl ?_
          refine RunD.op (ok_move rfl (fun _ => rfl)) rfl rfl ?_
          refine RunD.op (ok_move rfl (fun _ => rfl)) rfl rfl ?_
          first | refine RunD.op (ok_idxN rfl (fun _ => rfl) rfl (fun _ => rfl) rfl (fun _ => by omega)) rfl rfl ?_ | refine RunD.op (ok_idxP rfl (fun _ => rfl) rfl (fun _ => rfl) rfl (fun _ => by omega)) rfl rfl ?_
          refine RunD.op (ok_ldP rfl (fun _ => rfl) rfl) rfl rfl ?_
          refine RunD.op (ok_call (fun hp => ct_rIntersect _ _ _ v (hl k (by omega)) (hl i (by omega))) (.s rfl (fun _ => rfl) rfl <| .a rfl (fun _ => rfl) <| .a rfl (fun _ => rfl) <| .nil)) rfl rfl ?_
          refine RunD.new (ok_bsl eI 32 (fun hp => .cons rfl <| .nil) rfl rfl rfl rfl) rfl rfl rfl rfl ?_
          refine RunD.z ?_
          refine TrL.app rfl rfl rfl rfl rfl rfl rfl rfl (by first | omega | (simp only [List.length_cons, List.length_nil]; omega)) (by first | omega | (simp only [List.length_cons, List.length_nil]; omega)) ?_
          refine TrL.norm (S' := [⟨_, _, _, _⟩, ⟨_, _, _, _⟩, ⟨_, _, _, _⟩, ⟨_, _, _, _⟩, ⟨_, _, _, _⟩, ⟨_, _, _, _⟩, ⟨_, _, _, _⟩, ⟨_, _, _, _⟩, ⟨_, _, _, _⟩, ⟨_, _, _, _⟩, ⟨_, _, _, _⟩, ⟨_, _, _, _⟩, ⟨_, _, _, _⟩, ⟨_, _, _, _⟩, ⟨_, _, _, _⟩, ⟨_, _, _, _⟩, ⟨_, _, _, _⟩, ⟨_, _, _, _⟩, ⟨_, _, _, _⟩, ⟨_, _, _, _⟩, ⟨_, _, _, _⟩, ⟨_, _, _, _⟩, ⟨_, _, _, _⟩]) rfl rfl ?_
          refine TrL.op (ok_assign rfl (fun _ => rfl)) rfl rfl ?_
          refine TrL.fin ?_
          refine End.blk ?_
          refine End.nxt ?_
          refine Tr.rg ?_
          refine TrL.op (ok_move rfl (fun _ => rfl)) rfl rfl ?_
          refine TrL.op (ok_add rfl (fun _ => rfl) rfl (fun _ => rfl) (fun _ => by omega)) rfl rfl ?_
          refine TrL.op (ok_assign rfl (fun _ => rfl)) rfl rfl ?_
          refine TrL.fin ?_
          exact End.lp (i + 1) (by first | rfl | omega | (simp; done) | (simp; omega) | assumption) (by omega) (Ent.mk (.i rfl (by first | rfl | omega | (simp; done) | (simp; omega) | assumption) <| .o rfl (by first | rfl | omega | (simp; done) | (simp; omega) | assumption) rfl <| .k rfl rfl <| .k rfl rfl <| .k rfl rfl <| .k rfl rfl <| .nil) (.a tab_succ.symm (by first | rfl | omega | (simp; done) | (simp; omega) | assumption) <| .k rfl <| .k rfl <| .nil) rfl)
        · intro h7
          replace h7 := Int.not_lt.1 (of_decide_eq_false h7)
          refine Tr.exit ?_
          refine Exs.thn ?_
          refine Exs.thn ?_
          refine Exs.here ?_
          exact End.cut (i) (by omega) (Ent.mk (.i rfl (by first | rfl | omega | (simp; done) | (simp; omega) | assumption) <| .o rfl (by first | rfl | omega | (simp; done) | (simp; omega) | assumption) rfl <| .k rfl rfl <| .k rfl rfl <| .k rfl rfl <| .k rfl rfl <| .nil) (.a (by first | rfl | omega | (simp; done) | (simp; omega) | assumption) (by first | rfl | omega | (simp; done) | (simp; omega) | assumption) <| .k rfl <| .k rfl <| .nil) rfl)
      · rintro _ rfl
        refine End.norm (S' := [⟨8, true, _, _⟩, ⟨7, true, _, _⟩, ⟨1, true, _, _⟩, ⟨2, true, _, _⟩, ⟨5, true, _, _⟩, ⟨6, true, _, _⟩]) (M' := [⟨7, _, _⟩, ⟨2, _, _⟩, ⟨5, _, _⟩]) rfl rfl ?_
        refine End.nxt ?_
        refine Tr.rg ?_
        refine TrL.op (ok_move rfl (fun _ => rfl)) rfl rfl ?_
        refine TrL.op (ok_move rfl (fun _ => rfl)) rfl rfl ?_
        refine TrL.frz 7 [7, 35] ⟨rfl, rfl, trivial⟩ (by simp only [lenMax]; omega) rfl ?_
        refine TrL.norm (S' := [⟨_, _, _, _⟩, ⟨_, _, _, _⟩, ⟨_, _, _, _⟩, ⟨_, _, _, _⟩, ⟨_, _, _, _⟩, ⟨_, _, _, _⟩, ⟨_, _, _, _⟩, ⟨_, _, _, _⟩, ⟨_, _, _, _⟩, ⟨_, _, _, _⟩]) rfl rfl ?_
        refine TrL.new (ok_bsl (eL eI) 36 (fun hp => .cons rfl <| .nil) rfl rfl rfl rfl) rfl rfl rfl rfl ?_
        refine TrL.app rfl rfl rfl rfl rfl rfl rfl rfl (by first | omega | (simp only [List.length_cons, List.length_nil]; omega)) (by first | omega | (simp only [List.length_cons, List.length_nil]; omega)) ?_
        refine TrL.norm (S' := [⟨_, _, _, _⟩, ⟨_, _, _, _⟩, ⟨_, _, _, _⟩, ⟨_, _, _, _⟩, ⟨_, _, _, _⟩, ⟨_, _, _, _⟩, ⟨_, _, _, _⟩, ⟨_, _, _, _⟩, ⟨_, _, _, _⟩, ⟨_, _, _, _⟩, ⟨_, _, _, _⟩, ⟨_, _, _, _⟩]) rfl rfl ?_
        refine TrL.op (ok_assign rfl (fun _ => rfl)) rfl rfl ?_
        refine TrL.fin ?_
        refine End.blk ?_
        refine End.nxt ?_
        refine Tr.rg ?_
        refine TrL.op (ok_move rfl (fun _ => rfl)) rfl rfl ?_
        refine TrL.op (ok_add rfl (fun _ => rfl) rfl (fun _ => rfl) (fun _ => by omega)) rfl rfl ?_
        refine TrL.op (ok_assign rfl (fun _ => rfl)) rfl rfl ?_
        refine TrL.fin ?_
        exact End.lp (k + 1) (by first | rfl | omega | (simp; done) | (simp; omega) | assumption) (by omega) (Ent.mk (.i rfl (by first | rfl | omega | (simp; done) | (simp; omega) | assumption) <| .o rfl (by first | rfl | omega | (simp; done) | (simp; omega) | assumption) rfl <| .k rfl rfl <| .k rfl rfl <| .nil) (.a tab_succ.symm (by first | rfl | omega | (simp; done) | (simp; omega) | assumption) <| .k rfl <| .nil) rfl)
    · intro h3
      replace h3 := Int.not_lt.1 (of_decide_eq_false h3)
      refine Tr.exit ?_
      refine Exs.thn ?_
      refine Exs.thn ?_
      refine Exs.here ?_
      exact End.cut (k) (by omega) (Ent.mk (.i rfl (by first | rfl | omega | (simp; done) | (simp; omega) | assumption) <| .o rfl (by first | rfl | omega | (simp; done) | (simp; omega) | assumption) rfl <| .k rfl rfl <| .k rfl rfl <| .nil) (.a (by first | rfl | omega | (simp; done) | (simp; omega) | assumption) (by first | rfl | omega | (simp; done) | (simp; omega) | assumption) <| .k rfl <| .nil) rfl)
  · rintro _ rfl
    refine End.norm (S' := [⟨6, true, _, _⟩, ⟨5, true, _, _⟩, ⟨1, true, _, _⟩, ⟨2, true, _, _⟩]) (M' := [⟨5, _, _⟩, ⟨2, _, _⟩]) rfl rfl ?_
    refine End.nxt ?_
    refine Tr.seq ?_
    refine Tr.rg ?_
    refine TrL.op (ok_move rfl (fun _ => rfl)) rfl rfl ?_
    refine TrL.op (ok_assign rfl (fun _ => rfl)) rfl rfl ?_
    refine TrL.fin ?_
    refine End.nxt ?_
    refine Tr.frz 5 [4] ⟨rfl, trivial⟩ (by simp only [lenMax]; omega) rfl ?_
    refine Tr.ret ?_
    exact Rts.res1 (fn := Tryd.f34) rfl (.r rfl (by first | rfl | omega | (simp; done) | (simp; omega) | assumption) <| .nil)

end Go.Fl

/- Words: strings of letters. Plain Lean, no program in sight. -/
namespace Go.Fl
open Go Go.RowKit
theorem dropWhile_nil {α : Type} {p : α → Bool} : ∀ {l : List α}, l.dropWhile p = [] ↔ l.all p = true
  | [] => by simp
  | a :: r => by
    rw [List.dropWhile_cons]
    cases h : p a with
    | true => simp [h, dropWhile_nil (l := r)]
    | false => simp [h]
theorem trimS_nil {l cs : List UInt8} : Lib.trimS l cs = [] ↔ l.all (cs.contains ·) = true := by
  unfold Lib.trimS Lib.trimLeftS Lib.trimRightS
  rw [dropWhile_nil, List.all_reverse]
  have key : ∀ {p : UInt8 → Bool} (m : List UInt8), (m.dropWhile p).all p = true ↔ m.all p = true := fun {p} m => by
    induction m with
    | nil => simp
    | cons a r ih =>
      rw [List.dropWhile_cons]
      cases h : p a with
      | true => simp [h, ih]
      | false => simp [h]
  rw [key, List.all_reverse]
theorem all_let {s : ByteArray} : s.data.toList.all ([83, 84, 115, 116].contains ·) = (bs s).all isLet := by
  unfold bs
  rw [List.all_map]
  congr 1
  funext b
  simp only [Function.comp, isLet]
  rw [Bool.eq_iff_iff]
  simp only [List.contains_iff_mem, List.mem_cons, List.not_mem_nil, or_false, decide_eq_true_eq]
  have h : ∀ n : Nat, n < 256 → (b = UInt8.ofNat n ↔ (b.toNat : Int) = n) := fun n hn => by
    constructor
    · rintro rfl; simp [Nat.mod_eq_of_lt hn]
    · intro e; apply UInt8.toNat_inj.1; simp [Nat.mod_eq_of_lt hn]; omega
  have a := h 83 (by omega); have b' := h 84 (by omega); have c := h 115 (by omega); have d := h 116 (by omega)
  constructor
  · rintro (h | h | h | h)
    · exact .inl (a.1 h)
    · exact .inr (.inl (b'.1 h))
    · exact .inr (.inr (.inl (c.1 h)))
    · exact .inr (.inr (.inr (d.1 h)))
  · rintro (h | h | h | h)
    · exact .inl (a.2 h)
    · exact .inr (.inl (b'.2 h))
    · exact .inr (.inr (.inl (c.2 h)))
    · exact .inr (.inr (.inr (d.2 h)))
theorem trim_let {s : ByteArray} : (⟨(Lib.trimS s.data.toList [83, 84, 115, 116]).toArray⟩ : ByteArray) ≠ ⟨#[]⟩ ↔ (bs s).all isLet = false := by
  have h : (⟨(Lib.trimS s.data.toList [83, 84, 115, 116]).toArray⟩ : ByteArray) = ⟨#[]⟩ ↔ (bs s).all isLet = true := by
    rw [← all_let, ← trimS_nil]
    constructor
    · intro e
      have := congrArg (fun b : ByteArray => b.data.toList) e
      simpa using this
    · intro e; rw [e]
  rw [ne_eq, h]; simp
theorem bs_nth_rng {s : ByteArray} {i : Nat} (h : i < s.size) : 0 ≤ nth (bs s) i ∧ nth (bs s) i < 256 := bs_rng (nth_mem (by rw [bs_len]; exact h))
theorem par_sub {E : List Int} {i j : Nat} {a f : Int} (h : i ≠ j) (hj : j < E.length) : W (nth E j - f) = W (nth (E.set i a) j + W (-1 * f)) := by rw [nth_set hj, if_neg h, W_mone]
theorem par_add {E : List Int} {i j : Nat} {a f : Int} (h : i ≠ j) (hj : j < E.length) : W (nth E j + f) = W (nth (E.set i a) j + W (1 * f)) := by rw [nth_set hj, if_neg h, W_one]
theorem letK_len {x : Int} {o : Ori} {c : List Int} {k : Nat} : (letK x o c k).length = 2 * o.1.length := tab_len
theorem letO_T {o : Ori} : letO 84 o = (o.1, thenL o.2 (invL o.1)) := rfl
theorem letO_t {o : Ori} : letO 116 o = (o.1, thenL o.2 o.1) := rfl
theorem letO_S {o : Ori} : letO 83 o = (invL o.2, o.1) := rfl
theorem letO_s {o : Ori} : letO 115 o = (o.2, invL o.1) := rfl
end Go.Fl

/-
  DERIVED: THE SHELF's CONTRACTS AT THIS DUMP, IN PLAIN WORDS (tools/lay-plain.mjs out of 'YtjknpblmpcecjaaDoorTrimRaw.lean', which tools/lay-shelf.mjs wrote): THE SAME DECLARATIONS UNDER THE SAME NAMES: 'import', 'namespace', 'open', 'def', 'theorem' AND NOTHING ELSE: no command of the shelf's: FOR A HAND-IN. Each laying: the table of numbers ('.._ren') and one theorem, a field a fact of the dump's own or the kernel's comparison; each contract: ONE APPLICATION.
-/
namespace Go.Proofs
open Go.Shelf
def Tryd.lays160_ren : Go.Shelf.Ren := ⟨fun | 160 => 65 | 232 => 80 | 231 => 79 | 227 => 81 | 234 => 83 | 233 => 82 | 236 => 85 | 235 => 84 | 228 => 102 | 271 => 105 | 151 => 104 | 197 => 103 | 120 => 108 | 152 => 107 | 260 => 106 | 137 => 109 | 119 => 110 | 224 => 111 | 225 => 112 | 217 => 113 | 266 => 114 | n => n, fun | 9 => 9 | 4 => 4 | 3 => 3 | 5 => 5 | 117 => 120 | 116 => 119 | 0 => 0 | 124 => 123 | 21 => 21 | 105 => 126 | 46 => 131 | 119 => 130 | 139 => 134 | 138 => 133 | n => n, fun | 3 => 0 | 4 => 1 | n => n⟩
theorem Tryd.lays160 : Go.Proofs.Lays.n160 Tryd.prog Tryd.lays160_ren := {
  mixed := by kernel_rfl
  f119 := Tryd.func110.trans (congrArg some (by kernel_rfl))
  f120 := Tryd.func108.trans (congrArg some (by kernel_rfl))
  f137 := Tryd.func109.trans (congrArg some (by kernel_rfl))
  f151 := Tryd.func104.trans (congrArg some (by kernel_rfl))
  f152 := Tryd.func107.trans (congrArg some (by kernel_rfl))
  f160 := Tryd.func65.trans (congrArg some (by kernel_rfl))
  f197 := Tryd.func103.trans (congrArg some (by kernel_rfl))
  f217 := Tryd.func113.trans (congrArg some (by kernel_rfl))
  f224 := Tryd.func111.trans (congrArg some (by kernel_rfl))
  f225 := Tryd.func112.trans (congrArg some (by kernel_rfl))
  f227 := Tryd.func81.trans (congrArg some (by kernel_rfl))
  f228 := Tryd.func102.trans (congrArg some (by kernel_rfl))
  f231 := Tryd.func79.trans (congrArg some (by kernel_rfl))
  f232 := Tryd.func80.trans (congrArg some (by kernel_rfl))
  f233 := Tryd.func82.trans (congrArg some (by kernel_rfl))
  f234 := Tryd.func83.trans (congrArg some (by kernel_rfl))
  f235 := Tryd.func84.trans (congrArg some (by kernel_rfl))
  f236 := Tryd.func85.trans (congrArg some (by kernel_rfl))
  f260 := Tryd.func106.trans (congrArg some (by kernel_rfl))
  f266 := Tryd.func114.trans (congrArg some (by kernel_rfl))
  f271 := Tryd.func105.trans (congrArg some (by kernel_rfl))
  t0 := Tryd.underlying0
  a0 := Tryd.isAgg0
  z0 := Tryd.sizeOf0
  v0 := Tryd.zeroValue0
  t3 := Tryd.underlying3
  a3 := Tryd.isAgg3
  z3 := Tryd.sizeOf3
  v3 := Tryd.zeroValue3
  t4 := Tryd.underlying4
  a4 := Tryd.isAgg4
  z4 := Tryd.sizeOf4
  v4 := Tryd.zeroValue4
  t5 := Tryd.underlying5
  a5 := Tryd.isAgg5
  z5 := Tryd.sizeOf5
  v5 := Tryd.zeroValue5
  t9 := Tryd.underlying9
  a9 := Tryd.isAgg9
  z9 := Tryd.sizeOf9
  v9 := Tryd.zeroValue9
  t21 := Tryd.underlying21
  a21 := Tryd.isAgg21
  z21 := Tryd.sizeOf21
  v21 := Tryd.zeroValue21
  t46 := Tryd.underlying131
  a46 := Tryd.isAgg131
  z46 := Tryd.sizeOf131
  v46 := Tryd.zeroValue131
  t105 := Tryd.underlying126
  a105 := Tryd.isAgg126
  z105 := Tryd.sizeOf126
  v105 := Tryd.zeroValue126
  t116 := Tryd.underlying119
  a116 := Tryd.isAgg119
  z116 := Tryd.sizeOf119
  t117 := Tryd.underlying120
  a117 := Tryd.isAgg120
  z117 := Tryd.sizeOf120
  v117 := Tryd.zeroValue120
  t119 := Tryd.underlying130
  a119 := Tryd.isAgg130
  z119 := Tryd.sizeOf130
  t124 := Tryd.underlying123
  a124 := Tryd.isAgg123
  z124 := Tryd.sizeOf123
  v124 := Tryd.zeroValue123
  t138 := Tryd.underlying133
  a138 := Tryd.isAgg133
  z138 := Tryd.sizeOf133
  v138 := Tryd.zeroValue133
  t139 := Tryd.underlying134
  a139 := Tryd.isAgg134
  z139 := Tryd.sizeOf134
  v139 := Tryd.zeroValue134
  g3 := by kernel_rfl
  g4 := by kernel_rfl }
end Go.Proofs

/- Contracts on words: letters, push. -/
namespace Go.Fl
open Go Go.Proofs


def lfO (x : Int) : FuncId := if x = 84 then 86 else if x = 116 then 90 else if x = 83 then 93 else 96
def lfB (x : Int) : FuncId := if x = 84 then 88 else if x = 116 then 91 else if x = 83 then 94 else 97
def lfL (x : Int) : FuncId := if x = 84 then 89 else if x = 116 then 92 else if x = 83 then 95 else 98
instance {x : Int} : TyFn Tryd.prog (lfO x) := by unfold lfO; split; infer_instance; split; infer_instance; split <;> infer_instance
instance {x : Int} : TyFn Tryd.prog (lfB x) := by unfold lfB; split; infer_instance; split; infer_instance; split <;> infer_instance
instance {x : Int} : TyFn Tryd.prog (lfL x) := by unfold lfL; split; infer_instance; split; infer_instance; split <;> infer_instance
theorem letters_hk {x : Int} (hx : isLet x = true) : ∀ (i : Nat) (k0 : Know), ([.int .i32 84, .int .i32 116, .int .i32 83, .int .i32 115] : List Value)[i]? = some (Value.int .i32 x) → ([kAgg [kDet (.func (.func (86 : FuncId)) #[] #[]), kDet (.func (.func (88 : FuncId)) #[] #[]), kDet (.func (.func (89 : FuncId)) #[] #[])], kAgg [kDet (.func (.func (90 : FuncId)) #[] #[]), kDet (.func (.func (91 : FuncId)) #[] #[]), kDet (.func (.func (92 : FuncId)) #[] #[])], kAgg [kDet (.func (.func (93 : FuncId)) #[] #[]), kDet (.func (.func (94 : FuncId)) #[] #[]), kDet (.func (.func (95 : FuncId)) #[] #[])], kAgg [kDet (.func (.func (96 : FuncId)) #[] #[]), kDet (.func (.func (97 : FuncId)) #[] #[]), kDet (.func (.func (98 : FuncId)) #[] #[])]] : List Know)[i]? = some k0 → ∀ (g : Gh) (v : Value), k0 g v → (kAgg [kDet (.func (.func (lfO x)) #[] #[]), kDet (.func (.func (lfB x)) #[] #[]), kDet (.func (.func (lfL x)) #[] #[])]) g v := by
  rcases isLet_cases hx with rfl | rfl | rfl | rfl <;> intro i k0 h1 h2 g v h <;> rcases i with _ | _ | _ | _ | i <;> (first | (simp at h1; done) | (cases h2; exact h))
theorem letters_in {x : Int} (hx : isLet x = true) : Value.int .i32 x ∈ ([.int .i32 84, .int .i32 116, .int .i32 83, .int .i32 115] : List Value) := by rcases isLet_cases hx with rfl | rfl | rfl | rfl <;> simp
theorem conv_i32 {x : Int} (h0 : 0 ≤ x) (h1 : x < 256) : IntKind.i32.wrap x = x := by simp [IntKind.wrap, IntKind.bits, IntKind.signed]; omega
theorem ct_Trim (s : ByteArray) (hs : s.size ≤ 1000000) : Ct Tryd.prog 65 [kS s, kS ⟨#[83, 84, 115, 116]⟩] (kS ⟨(Lib.trimS s.data.toList [83, 84, 115, 116]).toArray⟩) :=
  Ct.det (us := [.string s, .string ⟨#[83, 84, 115, 116]⟩]) fun w => Any.strings_Trim_laid Tryd.lays160 (by kernel_rfl) s ⟨#[83, 84, 115, 116]⟩ w (by omega) (by decide) (ascii_of_all (by decide))

set_option maxRecDepth 100000 in
theorem ct_hthen (p q : List Int) (hn : p.length ≤ 1000) (hp : inR p q.length) : Ct Tryd.prog 87 [kRd (eL eI) p, kRd (eL eI) q] (kRd (eL eI) (thenL p q)) := by
  refine Ct.mk Tryd.func87 rfl Tryd.ntmps87 rfl (fun w J => ?_)
  refine Tr.seq ?_
  refine Tr.rg ?_
  refine TrL.op (ok_assign rfl (fun _ => rfl)) rfl rfl ?_
  refine TrL.fin ?_
  refine End.nxt ?_
  refine Tr.seq ?_
  refine Tr.rg ?_
  refine TrL.op (ok_move rfl (fun _ => rfl)) rfl rfl ?_
  refine TrL.op (ok_lenJ rfl (fun _ => rfl)) rfl rfl ?_
  refine TrL.new (ok_makeN eI 10 rfl (fun _ => rfl) rfl (fun _ => rfl) rfl rfl rfl (fun _ => by omega)) rfl rfl rfl rfl ?_
  refine TrL.op (ok_assign rfl (fun _ => rfl)) rfl rfl ?_
  refine TrL.fin ?_
  refine End.nxt ?_
  refine Tr.seq ?_
  refine Tr.seq ?_
  refine Tr.rg ?_
  refine TrL.op (ok_move rfl (fun _ => rfl)) rfl rfl ?_
  refine TrL.op (ok_lenJ rfl (fun _ => rfl)) rfl rfl ?_
  refine TrL.op (ok_move rfl (fun _ => rfl)) rfl rfl ?_
  refine TrL.fin ?_
  refine End.nxt ?_
  refine Tr.for1 (σ := Nat) [⟨1, true, _, _⟩, ⟨5, true, _, _⟩, ⟨11, true, _, _⟩, ⟨12, true, _, _⟩] [] (fun k => [⟨13, true, [], kI (k : Int)⟩]) (fun k => [⟨10, [], cArr false 3 eI (fillTo 0 (fun i => nth q (nth p i).toNat) p.length k) p.length⟩]) (fun k => k ≤ p.length) (fun k => k = p.length) (fun k => p.length - k) (0) (Nat.zero_le _) (Ent.mk (.i rfl (by first | rfl | omega | (simp; done) | (simp; omega) | assumption) <| .k rfl rfl <| .k rfl rfl <| .k rfl rfl <| .k rfl rfl <| .nil) (.a fillTo_zero (by first | rfl | omega | (simp; done) | (simp; omega) | assumption) <| .nil) rfl) ?_ ?_
  · intro k hR0
    refine Tr.norm (S' := [⟨13, true, _, _⟩, ⟨1, true, _, _⟩, ⟨5, true, _, _⟩, ⟨11, true, _, _⟩, ⟨12, true, _, _⟩]) (M' := [⟨10, _, _⟩]) rfl rfl ?_
    have hpk := hp k
    refine Tr.seq ?_
    refine Tr.rg ?_
    refine TrL.op (ok_lss rfl (fun _ => rfl) rfl (fun _ => rfl)) rfl rfl ?_
    refine TrL.fin ?_
    refine End.nxt ?_
    refine Tr.seq ?_
    refine Tr.cnd rfl ?_ ?_
    · intro h3
      replace h3 := of_decide_eq_true h3
      refine Tr.skip ?_
      refine End.nxt ?_
      refine Tr.seq ?_
      refine Tr.blk ?_
      refine Tr.seq ?_
      refine Tr.rg ?_
      refine TrL.op (ok_move rfl (fun _ => rfl)) rfl rfl ?_
      first | refine TrL.op (ok_idxN rfl (fun _ => rfl) rfl (fun _ => rfl) rfl (fun _ => by omega)) rfl rfl ?_ | refine TrL.op (ok_idxP rfl (fun _ => rfl) rfl (fun _ => rfl) rfl (fun _ => by omega)) rfl rfl ?_
      refine TrL.op (ok_ldP rfl (fun _ => rfl) rfl) rfl rfl ?_
      refine TrL.op (ok_assign rfl (fun _ => rfl)) rfl rfl ?_
      refine TrL.op (ok_assign rfl (fun _ => rfl)) rfl rfl ?_
      refine TrL.fin ?_
      refine End.nxt ?_
      refine Tr.rg ?_
      refine TrL.op (ok_move rfl (fun _ => rfl)) rfl rfl ?_
      refine TrL.op (ok_move rfl (fun _ => rfl)) rfl rfl ?_
      refine TrL.op (ok_move rfl (fun _ => rfl)) rfl rfl ?_
      refine TrL.op (ok_move rfl (fun _ => rfl)) rfl rfl ?_
      first | refine TrL.op (ok_idxN rfl (fun _ => rfl) rfl (fun _ => rfl) rfl (fun _ => by omega)) rfl rfl ?_ | refine TrL.op (ok_idxP rfl (fun _ => rfl) rfl (fun _ => rfl) rfl (fun _ => by omega)) rfl rfl ?_
      refine TrL.op (ok_ldP rfl (fun _ => rfl) rfl) rfl rfl ?_
      first | refine TrL.op (ok_idxEN rfl (fun _ => rfl) rfl (fun _ => rfl) (fun _ => by omega)) rfl rfl ?_ | refine TrL.op (ok_idxE rfl (fun _ => rfl) rfl (fun _ => rfl) (fun _ => by omega)) rfl rfl ?_
      refine TrL.stE rfl rfl rfl rfl rfl ?_
      refine TrL.fin ?_
      refine End.blk ?_
      refine End.nxt ?_
      refine Tr.rg ?_
      refine TrL.op (ok_add rfl (fun _ => rfl) rfl (fun _ => rfl) (fun _ => by omega)) rfl rfl ?_
      refine TrL.op (ok_move rfl (fun _ => rfl)) rfl rfl ?_
      refine TrL.fin ?_
      exact End.lp (k + 1) (by first | rfl | omega | (simp; done) | (simp; omega) | assumption) (by omega) (Ent.mk (.i rfl (by first | rfl | omega | (simp; done) | (simp; omega) | assumption) <| .k rfl rfl <| .k rfl rfl <| .k rfl rfl <| .k rfl rfl <| .nil) (.a (by rw [← fillTo_succ]) (by first | rfl | omega | (simp; done) | (simp; omega) | assumption) <| .nil) rfl)
    · intro h3
      replace h3 := Int.not_lt.1 (of_decide_eq_false h3)
      refine Tr.exit ?_
      refine Exs.thn ?_
      refine Exs.thn ?_
      refine Exs.here ?_
      exact End.cut (k) (by omega) (Ent.mk (.i rfl (by first | rfl | omega | (simp; done) | (simp; omega) | assumption) <| .k rfl rfl <| .k rfl rfl <| .k rfl rfl <| .k rfl rfl <| .nil) (.a (by first | rfl | omega | (simp; done) | (simp; omega) | assumption) (by first | rfl | omega | (simp; done) | (simp; omega) | assumption) <| .nil) rfl)
  · rintro _ rfl
    refine End.norm (S' := [⟨13, true, _, _⟩, ⟨1, true, _, _⟩, ⟨5, true, _, _⟩, ⟨11, true, _, _⟩, ⟨12, true, _, _⟩]) (M' := [⟨10, _, _⟩]) rfl rfl ?_
    refine End.nxt ?_
    refine Tr.seq ?_
    refine Tr.rg ?_
    refine TrL.op (ok_move rfl (fun _ => rfl)) rfl rfl ?_
    refine TrL.op (ok_assign rfl (fun _ => rfl)) rfl rfl ?_
    refine TrL.fin ?_
    refine End.nxt ?_
    refine Tr.frz 10 [4] ⟨rfl, trivial⟩ (by simp only [lenMax]; omega) rfl ?_
    refine Tr.ret ?_
    exact Rts.res1 (fn := Tryd.f87) rfl (.r rfl fillTo_all <| .nil)

set_option maxRecDepth 100000 in
theorem ct_lO0 (o : Ori) (v : Valid o) : Ct Tryd.prog 86 [kPtr eG (gridOf o)] (kRd eO (letO 84 o)) := by
  have hv0 := v.pos
  have hv1 := v.len
  have hv2 := v.le
  have hl1 := invL_len o.1
  have hl2 := invL_len o.2
  refine Ct.mk Tryd.func86 rfl Tryd.ntmps86 rfl (fun w J => ?_)
  refine Tr.seq ?_
  refine Tr.rg ?_
  refine TrL.new (ok_alloc 2) rfl rfl rfl rfl ?_
  refine TrL.fin ?_
  refine End.nxt ?_
  refine Tr.seq ?_
  refine Tr.draw 13 mixed (by kernel_rfl) ?_
  refine RunD.op (ok_move rfl (fun _ => rfl)) rfl rfl ?_
  refine RunD.op (ok_nilP rfl (fun _ => rfl)) rfl rfl ?_
  refine RunD.op (ok_fldP rfl (fun _ => rfl) rfl) rfl rfl ?_
  refine RunD.op (ok_ldP rfl (fun _ => rfl) rfl) rfl rfl ?_
  refine RunD.op (ok_move rfl (fun _ => rfl)) rfl rfl ?_
  refine RunD.op (ok_nilP rfl (fun _ => rfl)) rfl rfl ?_
  refine RunD.op (ok_fldP rfl (fun _ => rfl) rfl) rfl rfl ?_
  refine RunD.op (ok_ldP rfl (fun _ => rfl) rfl) rfl rfl ?_
  refine RunD.op (ok_move rfl (fun _ => rfl)) rfl rfl ?_
  refine RunD.op (ok_nilP rfl (fun _ => rfl)) rfl rfl ?_
  refine RunD.op (ok_fldP rfl (fun _ => rfl) rfl) rfl rfl ?_
  refine RunD.op (ok_ldP rfl (fun _ => rfl) rfl) rfl rfl ?_
  refine RunD.op (ok_call (fun hp => ct_hthen _ _ (by omega) (by rw [hl1]; exact v.rU)) (.a rfl (fun _ => rfl) <| .a rfl (fun _ => rfl) <| .nil)) rfl rfl ?_
  refine RunD.z ?_
  refine TrL.op (ok_build (fun hp => .cons rfl rfl rfl <| .cons rfl rfl rfl <| .nil)) rfl rfl ?_
  refine TrL.stB rfl rfl rfl rfl ?_
  refine TrL.fin ?_
  refine End.nxt ?_
  refine Tr.ret ?_
  exact Rts.resC1 (fn := Tryd.f86) rfl rfl (aggRd rfl (by rfl))

set_option maxRecDepth 100000 in
theorem ct_lB0 (o : Ori) (i : Int) (v : Valid o) (_h0 : 0 ≤ i) (_h1 : i < o.1.length) : Ct Tryd.prog 88 [kPtr eG (gridOf o), kI i] (kTup [kI (bE 84 o i), kI (bS 84)]) := by
  have hv0 := v.pos
  have hv1 := v.len
  have hv2 := v.le
  have hl1 := invL_len o.1
  have hl2 := invL_len o.2
  have a1 := v.ri (i := i.toNat) (by omega)
  have a2 := v.ui (i := i.toNat) (by omega)
  have a3 := invR v (i := i.toNat) (by omega)
  have a4 := invU v (i := i.toNat) (by omega)
  have a5 := v.ui (i := (nth (invL o.1) i.toNat).toNat) (by omega)
  have a6 := invR v (i := (nth o.2 (nth (invL o.1) i.toNat).toNat).toNat) (by omega)
  have a7 := v.ri (i := (nth o.2 i.toNat).toNat) (by omega)
  refine Ct.mk Tryd.func88 rfl Tryd.ntmps88 rfl (fun w J => ?_)
  refine Tr.seq ?_
  refine Tr.rg ?_
  refine TrL.op (ok_assign rfl (fun _ => rfl)) rfl rfl ?_
  refine TrL.op (ok_assign rfl (fun _ => rfl)) rfl rfl ?_
  refine TrL.fin ?_
  refine End.nxt ?_
  refine Tr.seq ?_
  refine Tr.rg ?_
  refine TrL.op (ok_move rfl (fun _ => rfl)) rfl rfl ?_
  refine TrL.op (ok_nilP rfl (fun _ => rfl)) rfl rfl ?_
  refine TrL.op (ok_fldP rfl (fun _ => rfl) rfl) rfl rfl ?_
  refine TrL.op (ok_ldP rfl (fun _ => rfl) rfl) rfl rfl ?_
  refine TrL.op (ok_move rfl (fun _ => rfl)) rfl rfl ?_
  first | refine TrL.op (ok_idxN rfl (fun _ => rfl) rfl (fun _ => rfl) rfl (fun _ => by omega)) rfl rfl ?_ | refine TrL.op (ok_idxP rfl (fun _ => rfl) rfl (fun _ => rfl) rfl (fun _ => by omega)) rfl rfl ?_
  refine TrL.op (ok_ldP rfl (fun _ => rfl) rfl) rfl rfl ?_
  refine TrL.op (ok_assign rfl (fun _ => rfl)) rfl rfl ?_
  refine TrL.op (ok_assign rfl (fun _ => rfl)) rfl rfl ?_
  refine TrL.fin ?_
  refine End.nxt ?_
  refine Tr.ret ?_
  exact Rts.res (fn := Tryd.f88) (ts := [4, 5]) rfl rfl (.i rfl (by rfl) <| .i rfl (by rfl) <| .nil)

set_option maxRecDepth 100000 in
theorem ct_lL0 (o : Ori) (i : Int) (v : Valid o) (_h0 : 0 ≤ i) (_h1 : i < o.1.length) : Ct Tryd.prog 89 [kPtr eG (gridOf o), kI i] (kTup [kI (lE 84 o i), kI (lS 84), kI (lF 84 o i), kI (lT 84)]) := by
  have hv0 := v.pos
  have hv1 := v.len
  have hv2 := v.le
  have hl1 := invL_len o.1
  have hl2 := invL_len o.2
  have a1 := v.ri (i := i.toNat) (by omega)
  have a2 := v.ui (i := i.toNat) (by omega)
  have a3 := invR v (i := i.toNat) (by omega)
  have a4 := invU v (i := i.toNat) (by omega)
  have a5 := v.ui (i := (nth (invL o.1) i.toNat).toNat) (by omega)
  have a6 := invR v (i := (nth o.2 (nth (invL o.1) i.toNat).toNat).toNat) (by omega)
  have a7 := v.ri (i := (nth o.2 i.toNat).toNat) (by omega)
  refine Ct.mk Tryd.func89 rfl Tryd.ntmps89 rfl (fun w J => ?_)
  refine Tr.seq ?_
  refine Tr.rg ?_
  refine TrL.op (ok_assign rfl (fun _ => rfl)) rfl rfl ?_
  refine TrL.op (ok_assign rfl (fun _ => rfl)) rfl rfl ?_
  refine TrL.op (ok_assign rfl (fun _ => rfl)) rfl rfl ?_
  refine TrL.op (ok_assign rfl (fun _ => rfl)) rfl rfl ?_
  refine TrL.fin ?_
  refine End.nxt ?_
  refine Tr.seq ?_
  refine Tr.draw 33 mixed (by kernel_rfl) ?_
  refine RunD.op (ok_move rfl (fun _ => rfl)) rfl rfl ?_
  refine RunD.op (ok_nilP rfl (fun _ => rfl)) rfl rfl ?_
  refine RunD.op (ok_fldP rfl (fun _ => rfl) rfl) rfl rfl ?_
  refine RunD.op (ok_ldP rfl (fun _ => rfl) rfl) rfl rfl ?_
  refine RunD.op (ok_move rfl (fun _ => rfl)) rfl rfl ?_
  refine RunD.op (ok_nilP rfl (fun _ => rfl)) rfl rfl ?_
  refine RunD.op (ok_fldP rfl (fun _ => rfl) rfl) rfl rfl ?_
  refine RunD.op (ok_ldP rfl (fun _ => rfl) rfl) rfl rfl ?_
  refine RunD.op (ok_move rfl (fun _ => rfl)) rfl rfl ?_
  first | refine RunD.op (ok_idxN rfl (fun _ => rfl) rfl (fun _ => rfl) rfl (fun _ => by omega)) rfl rfl ?_ | refine RunD.op (ok_idxP rfl (fun _ => rfl) rfl (fun _ => rfl) rfl (fun _ => by omega)) rfl rfl ?_
  refine RunD.op (ok_ldP rfl (fun _ => rfl) rfl) rfl rfl ?_
  refine RunD.op (ok_add rfl (fun _ => rfl) rfl (fun _ => rfl) (fun _ => by omega)) rfl rfl ?_
  refine RunD.op (ok_move rfl (fun _ => rfl)) rfl rfl ?_
  refine RunD.op (ok_nilP rfl (fun _ => rfl)) rfl rfl ?_
  refine RunD.op (ok_fldP rfl (fun _ => rfl) rfl) rfl rfl ?_
  refine RunD.op (ok_ldP rfl (fun _ => rfl) rfl) rfl rfl ?_
  refine RunD.op (ok_move rfl (fun _ => rfl)) rfl rfl ?_
  refine RunD.op (ok_nilP rfl (fun _ => rfl)) rfl rfl ?_
  refine RunD.op (ok_fldP rfl (fun _ => rfl) rfl) rfl rfl ?_
  refine RunD.op (ok_ldP rfl (fun _ => rfl) rfl) rfl rfl ?_
  refine RunD.op (ok_move rfl (fun _ => rfl)) rfl rfl ?_
  refine RunD.op (ok_nilP rfl (fun _ => rfl)) rfl rfl ?_
  refine RunD.op (ok_fldP rfl (fun _ => rfl) rfl) rfl rfl ?_
  refine RunD.op (ok_ldP rfl (fun _ => rfl) rfl) rfl rfl ?_
  refine RunD.op (ok_move rfl (fun _ => rfl)) rfl rfl ?_
  first | refine RunD.op (ok_idxN rfl (fun _ => rfl) rfl (fun _ => rfl) rfl (fun _ => by omega)) rfl rfl ?_ | refine RunD.op (ok_idxP rfl (fun _ => rfl) rfl (fun _ => rfl) rfl (fun _ => by omega)) rfl rfl ?_
  refine RunD.op (ok_ldP rfl (fun _ => rfl) rfl) rfl rfl ?_
  first | refine RunD.op (ok_idxN rfl (fun _ => rfl) rfl (fun _ => rfl) rfl (fun _ => by omega)) rfl rfl ?_ | refine RunD.op (ok_idxP rfl (fun _ => rfl) rfl (fun _ => rfl) rfl (fun _ => by omega)) rfl rfl ?_
  refine RunD.op (ok_ldP rfl (fun _ => rfl) rfl) rfl rfl ?_
  first | refine RunD.op (ok_idxN rfl (fun _ => rfl) rfl (fun _ => rfl) rfl (fun _ => by omega)) rfl rfl ?_ | refine RunD.op (ok_idxP rfl (fun _ => rfl) rfl (fun _ => rfl) rfl (fun _ => by omega)) rfl rfl ?_
  refine RunD.op (ok_ldP rfl (fun _ => rfl) rfl) rfl rfl ?_
  refine RunD.op (ok_assign rfl (fun _ => rfl)) rfl rfl ?_
  refine RunD.op (ok_assign rfl (fun _ => rfl)) rfl rfl ?_
  refine RunD.z ?_
  refine TrL.op (ok_assign rfl (fun _ => rfl)) rfl rfl ?_
  refine TrL.op (ok_assign rfl (fun _ => rfl)) rfl rfl ?_
  refine TrL.fin ?_
  refine End.nxt ?_
  refine Tr.ret ?_
  exact Rts.res (fn := Tryd.f89) (ts := [4, 5, 6, 7]) rfl rfl (.i rfl (by rfl) <| .i rfl (by rfl) <| .i rfl (by rfl) <| .i rfl (by rfl) <| .nil)

set_option maxRecDepth 100000 in
theorem ct_lO1 (o : Ori) (v : Valid o) : Ct Tryd.prog 90 [kPtr eG (gridOf o)] (kRd eO (letO 116 o)) := by
  have hv0 := v.pos
  have hv1 := v.len
  have hv2 := v.le
  have hl1 := invL_len o.1
  have hl2 := invL_len o.2
  refine Ct.mk Tryd.func90 rfl Tryd.ntmps90 rfl (fun w J => ?_)
  refine Tr.seq ?_
  refine Tr.rg ?_
  refine TrL.new (ok_alloc 2) rfl rfl rfl rfl ?_
  refine TrL.fin ?_
  refine End.nxt ?_
  refine Tr.seq ?_
  refine Tr.draw 13 mixed (by kernel_rfl) ?_
  refine RunD.op (ok_move rfl (fun _ => rfl)) rfl rfl ?_
  refine RunD.op (ok_nilP rfl (fun _ => rfl)) rfl rfl ?_
  refine RunD.op (ok_fldP rfl (fun _ => rfl) rfl) rfl rfl ?_
  refine RunD.op (ok_ldP rfl (fun _ => rfl) rfl) rfl rfl ?_
  refine RunD.op (ok_move rfl (fun _ => rfl)) rfl rfl ?_
  refine RunD.op (ok_nilP rfl (fun _ => rfl)) rfl rfl ?_
  refine RunD.op (ok_fldP rfl (fun _ => rfl) rfl) rfl rfl ?_
  refine RunD.op (ok_ldP rfl (fun _ => rfl) rfl) rfl rfl ?_
  refine RunD.op (ok_move rfl (fun _ => rfl)) rfl rfl ?_
  refine RunD.op (ok_nilP rfl (fun _ => rfl)) rfl rfl ?_
  refine RunD.op (ok_fldP rfl (fun _ => rfl) rfl) rfl rfl ?_
  refine RunD.op (ok_ldP rfl (fun _ => rfl) rfl) rfl rfl ?_
  refine RunD.op (ok_call (fun hp => ct_hthen _ _ (by omega) (by exact v.rU)) (.a rfl (fun _ => rfl) <| .a rfl (fun _ => rfl) <| .nil)) rfl rfl ?_
  refine RunD.z ?_
  refine TrL.op (ok_build (fun hp => .cons rfl rfl rfl <| .cons rfl rfl rfl <| .nil)) rfl rfl ?_
  refine TrL.stB rfl rfl rfl rfl ?_
  refine TrL.fin ?_
  refine End.nxt ?_
  refine Tr.ret ?_
  exact Rts.resC1 (fn := Tryd.f90) rfl rfl (aggRd rfl (by rfl))

set_option maxRecDepth 100000 in
theorem ct_lB1 (o : Ori) (i : Int) (v : Valid o) (_h0 : 0 ≤ i) (_h1 : i < o.1.length) : Ct Tryd.prog 91 [kPtr eG (gridOf o), kI i] (kTup [kI (bE 116 o i), kI (bS 116)]) := by
  have hv0 := v.pos
  have hv1 := v.len
  have hv2 := v.le
  have hl1 := invL_len o.1
  have hl2 := invL_len o.2
  have a1 := v.ri (i := i.toNat) (by omega)
  have a2 := v.ui (i := i.toNat) (by omega)
  have a3 := invR v (i := i.toNat) (by omega)
  have a4 := invU v (i := i.toNat) (by omega)
  have a5 := v.ui (i := (nth (invL o.1) i.toNat).toNat) (by omega)
  have a6 := invR v (i := (nth o.2 (nth (invL o.1) i.toNat).toNat).toNat) (by omega)
  have a7 := v.ri (i := (nth o.2 i.toNat).toNat) (by omega)
  refine Ct.mk Tryd.func91 rfl Tryd.ntmps91 rfl (fun w J => ?_)
  refine Tr.seq ?_
  refine Tr.rg ?_
  refine TrL.op (ok_assign rfl (fun _ => rfl)) rfl rfl ?_
  refine TrL.op (ok_assign rfl (fun _ => rfl)) rfl rfl ?_
  refine TrL.fin ?_
  refine End.nxt ?_
  refine Tr.seq ?_
  refine Tr.rg ?_
  refine TrL.op (ok_move rfl (fun _ => rfl)) rfl rfl ?_
  refine TrL.op (ok_nilP rfl (fun _ => rfl)) rfl rfl ?_
  refine TrL.op (ok_fldP rfl (fun _ => rfl) rfl) rfl rfl ?_
  refine TrL.op (ok_ldP rfl (fun _ => rfl) rfl) rfl rfl ?_
  refine TrL.op (ok_move rfl (fun _ => rfl)) rfl rfl ?_
  first | refine TrL.op (ok_idxN rfl (fun _ => rfl) rfl (fun _ => rfl) rfl (fun _ => by omega)) rfl rfl ?_ | refine TrL.op (ok_idxP rfl (fun _ => rfl) rfl (fun _ => rfl) rfl (fun _ => by omega)) rfl rfl ?_
  refine TrL.op (ok_ldP rfl (fun _ => rfl) rfl) rfl rfl ?_
  refine TrL.op (ok_assign rfl (fun _ => rfl)) rfl rfl ?_
  refine TrL.op (ok_assign rfl (fun _ => rfl)) rfl rfl ?_
  refine TrL.fin ?_
  refine End.nxt ?_
  refine Tr.ret ?_
  exact Rts.res (fn := Tryd.f91) (ts := [4, 5]) rfl rfl (.i rfl (by rfl) <| .i rfl (by rfl) <| .nil)

set_option maxRecDepth 100000 in
theorem ct_lL1 (o : Ori) (i : Int) (v : Valid o) (_h0 : 0 ≤ i) (_h1 : i < o.1.length) : Ct Tryd.prog 92 [kPtr eG (gridOf o), kI i] (kTup [kI (lE 116 o i), kI (lS 116), kI (lF 116 o i), kI (lT 116)]) := by
  have hv0 := v.pos
  have hv1 := v.len
  have hv2 := v.le
  have hl1 := invL_len o.1
  have hl2 := invL_len o.2
  have a1 := v.ri (i := i.toNat) (by omega)
  have a2 := v.ui (i := i.toNat) (by omega)
  have a3 := invR v (i := i.toNat) (by omega)
  have a4 := invU v (i := i.toNat) (by omega)
  have a5 := v.ui (i := (nth (invL o.1) i.toNat).toNat) (by omega)
  have a6 := invR v (i := (nth o.2 (nth (invL o.1) i.toNat).toNat).toNat) (by omega)
  have a7 := v.ri (i := (nth o.2 i.toNat).toNat) (by omega)
  refine Ct.mk Tryd.func92 rfl Tryd.ntmps92 rfl (fun w J => ?_)
  refine Tr.seq ?_
  refine Tr.rg ?_
  refine TrL.op (ok_assign rfl (fun _ => rfl)) rfl rfl ?_
  refine TrL.op (ok_assign rfl (fun _ => rfl)) rfl rfl ?_
  refine TrL.op (ok_assign rfl (fun _ => rfl)) rfl rfl ?_
  refine TrL.op (ok_assign rfl (fun _ => rfl)) rfl rfl ?_
  refine TrL.fin ?_
  refine End.nxt ?_
  refine Tr.seq ?_
  refine Tr.draw 27 mixed (by kernel_rfl) ?_
  refine RunD.op (ok_move rfl (fun _ => rfl)) rfl rfl ?_
  refine RunD.op (ok_nilP rfl (fun _ => rfl)) rfl rfl ?_
  refine RunD.op (ok_fldP rfl (fun _ => rfl) rfl) rfl rfl ?_
  refine RunD.op (ok_ldP rfl (fun _ => rfl) rfl) rfl rfl ?_
  refine RunD.op (ok_move rfl (fun _ => rfl)) rfl rfl ?_
  refine RunD.op (ok_nilP rfl (fun _ => rfl)) rfl rfl ?_
  refine RunD.op (ok_fldP rfl (fun _ => rfl) rfl) rfl rfl ?_
  refine RunD.op (ok_ldP rfl (fun _ => rfl) rfl) rfl rfl ?_
  refine RunD.op (ok_move rfl (fun _ => rfl)) rfl rfl ?_
  first | refine RunD.op (ok_idxN rfl (fun _ => rfl) rfl (fun _ => rfl) rfl (fun _ => by omega)) rfl rfl ?_ | refine RunD.op (ok_idxP rfl (fun _ => rfl) rfl (fun _ => rfl) rfl (fun _ => by omega)) rfl rfl ?_
  refine RunD.op (ok_ldP rfl (fun _ => rfl) rfl) rfl rfl ?_
  refine RunD.op (ok_add rfl (fun _ => rfl) rfl (fun _ => rfl) (fun _ => by omega)) rfl rfl ?_
  refine RunD.op (ok_move rfl (fun _ => rfl)) rfl rfl ?_
  refine RunD.op (ok_nilP rfl (fun _ => rfl)) rfl rfl ?_
  refine RunD.op (ok_fldP rfl (fun _ => rfl) rfl) rfl rfl ?_
  refine RunD.op (ok_ldP rfl (fun _ => rfl) rfl) rfl rfl ?_
  refine RunD.op (ok_move rfl (fun _ => rfl)) rfl rfl ?_
  refine RunD.op (ok_nilP rfl (fun _ => rfl)) rfl rfl ?_
  refine RunD.op (ok_fldP rfl (fun _ => rfl) rfl) rfl rfl ?_
  refine RunD.op (ok_ldP rfl (fun _ => rfl) rfl) rfl rfl ?_
  refine RunD.op (ok_move rfl (fun _ => rfl)) rfl rfl ?_
  first | refine RunD.op (ok_idxN rfl (fun _ => rfl) rfl (fun _ => rfl) rfl (fun _ => by omega)) rfl rfl ?_ | refine RunD.op (ok_idxP rfl (fun _ => rfl) rfl (fun _ => rfl) rfl (fun _ => by omega)) rfl rfl ?_
  refine RunD.op (ok_ldP rfl (fun _ => rfl) rfl) rfl rfl ?_
  first | refine RunD.op (ok_idxN rfl (fun _ => rfl) rfl (fun _ => rfl) rfl (fun _ => by omega)) rfl rfl ?_ | refine RunD.op (ok_idxP rfl (fun _ => rfl) rfl (fun _ => rfl) rfl (fun _ => by omega)) rfl rfl ?_
  refine RunD.op (ok_ldP rfl (fun _ => rfl) rfl) rfl rfl ?_
  refine RunD.op (ok_assign rfl (fun _ => rfl)) rfl rfl ?_
  refine RunD.op (ok_assign rfl (fun _ => rfl)) rfl rfl ?_
  refine RunD.z ?_
  refine TrL.op (ok_assign rfl (fun _ => rfl)) rfl rfl ?_
  refine TrL.op (ok_assign rfl (fun _ => rfl)) rfl rfl ?_
  refine TrL.fin ?_
  refine End.nxt ?_
  refine Tr.ret ?_
  exact Rts.res (fn := Tryd.f92) (ts := [4, 5, 6, 7]) rfl rfl (.i rfl (by rfl) <| .i rfl (by rfl) <| .i rfl (by rfl) <| .i rfl (by rfl) <| .nil)

set_option maxRecDepth 100000 in
theorem ct_lO2 (o : Ori) (v : Valid o) : Ct Tryd.prog 93 [kPtr eG (gridOf o)] (kRd eO (letO 83 o)) := by
  have hv0 := v.pos
  have hv1 := v.len
  have hv2 := v.le
  have hl1 := invL_len o.1
  have hl2 := invL_len o.2
  refine Ct.mk Tryd.func93 rfl Tryd.ntmps93 rfl (fun w J => ?_)
  refine Tr.seq ?_
  refine Tr.rg ?_
  refine TrL.new (ok_alloc 2) rfl rfl rfl rfl ?_
  refine TrL.fin ?_
  refine End.nxt ?_
  refine Tr.seq ?_
  refine Tr.draw 8 mixed (by kernel_rfl) ?_
  refine RunD.op (ok_move rfl (fun _ => rfl)) rfl rfl ?_
  refine RunD.op (ok_nilP rfl (fun _ => rfl)) rfl rfl ?_
  refine RunD.op (ok_fldP rfl (fun _ => rfl) rfl) rfl rfl ?_
  refine RunD.op (ok_ldP rfl (fun _ => rfl) rfl) rfl rfl ?_
  refine RunD.op (ok_move rfl (fun _ => rfl)) rfl rfl ?_
  refine RunD.op (ok_nilP rfl (fun _ => rfl)) rfl rfl ?_
  refine RunD.op (ok_fldP rfl (fun _ => rfl) rfl) rfl rfl ?_
  refine RunD.op (ok_ldP rfl (fun _ => rfl) rfl) rfl rfl ?_
  refine RunD.z ?_
  refine TrL.op (ok_build (fun hp => .cons rfl rfl rfl <| .cons rfl rfl rfl <| .nil)) rfl rfl ?_
  refine TrL.stB rfl rfl rfl rfl ?_
  refine TrL.fin ?_
  refine End.nxt ?_
  refine Tr.ret ?_
  exact Rts.resC1 (fn := Tryd.f93) rfl rfl (aggRd rfl (by rfl))

set_option maxRecDepth 100000 in
theorem ct_lB2 (o : Ori) (i : Int) (v : Valid o) (_h0 : 0 ≤ i) (_h1 : i < o.1.length) : Ct Tryd.prog 94 [kPtr eG (gridOf o), kI i] (kTup [kI (bE 83 o i), kI (bS 83)]) := by
  have hv0 := v.pos
  have hv1 := v.len
  have hv2 := v.le
  have hl1 := invL_len o.1
  have hl2 := invL_len o.2
  have a1 := v.ri (i := i.toNat) (by omega)
  have a2 := v.ui (i := i.toNat) (by omega)
  have a3 := invR v (i := i.toNat) (by omega)
  have a4 := invU v (i := i.toNat) (by omega)
  have a5 := v.ui (i := (nth (invL o.1) i.toNat).toNat) (by omega)
  have a6 := invR v (i := (nth o.2 (nth (invL o.1) i.toNat).toNat).toNat) (by omega)
  have a7 := v.ri (i := (nth o.2 i.toNat).toNat) (by omega)
  refine Ct.mk Tryd.func94 rfl Tryd.ntmps94 rfl (fun w J => ?_)
  refine Tr.seq ?_
  refine Tr.rg ?_
  refine TrL.op (ok_assign rfl (fun _ => rfl)) rfl rfl ?_
  refine TrL.op (ok_assign rfl (fun _ => rfl)) rfl rfl ?_
  refine TrL.fin ?_
  refine End.nxt ?_
  refine Tr.seq ?_
  refine Tr.draw 11 mixed (by kernel_rfl) ?_
  refine RunD.op (ok_move rfl (fun _ => rfl)) rfl rfl ?_
  refine RunD.op (ok_nilP rfl (fun _ => rfl)) rfl rfl ?_
  refine RunD.op (ok_fldP rfl (fun _ => rfl) rfl) rfl rfl ?_
  refine RunD.op (ok_ldP rfl (fun _ => rfl) rfl) rfl rfl ?_
  refine RunD.op (ok_move rfl (fun _ => rfl)) rfl rfl ?_
  refine RunD.op (ok_nilP rfl (fun _ => rfl)) rfl rfl ?_
  refine RunD.op (ok_fldP rfl (fun _ => rfl) rfl) rfl rfl ?_
  refine RunD.op (ok_ldP rfl (fun _ => rfl) rfl) rfl rfl ?_
  refine RunD.op (ok_move rfl (fun _ => rfl)) rfl rfl ?_
  first | refine RunD.op (ok_idxN rfl (fun _ => rfl) rfl (fun _ => rfl) rfl (fun _ => by omega)) rfl rfl ?_ | refine RunD.op (ok_idxP rfl (fun _ => rfl) rfl (fun _ => rfl) rfl (fun _ => by omega)) rfl rfl ?_
  refine RunD.op (ok_ldP rfl (fun _ => rfl) rfl) rfl rfl ?_
  refine RunD.z ?_
  refine TrL.op (ok_add rfl (fun _ => rfl) rfl (fun _ => rfl) (fun _ => by omega)) rfl rfl ?_
  refine TrL.op (ok_assign rfl (fun _ => rfl)) rfl rfl ?_
  refine TrL.op (ok_assign rfl (fun _ => rfl)) rfl rfl ?_
  refine TrL.fin ?_
  refine End.nxt ?_
  refine Tr.ret ?_
  exact Rts.res (fn := Tryd.f94) (ts := [4, 5]) rfl rfl (.i rfl (by rfl) <| .i rfl (by rfl) <| .nil)

set_option maxRecDepth 100000 in
theorem ct_lL2 (o : Ori) (i : Int) (v : Valid o) (_h0 : 0 ≤ i) (_h1 : i < o.1.length) : Ct Tryd.prog 95 [kPtr eG (gridOf o), kI i] (kTup [kI (lE 83 o i), kI (lS 83), kI (lF 83 o i), kI (lT 83)]) := by
  have hv0 := v.pos
  have hv1 := v.len
  have hv2 := v.le
  have hl1 := invL_len o.1
  have hl2 := invL_len o.2
  have a1 := v.ri (i := i.toNat) (by omega)
  have a2 := v.ui (i := i.toNat) (by omega)
  have a3 := invR v (i := i.toNat) (by omega)
  have a4 := invU v (i := i.toNat) (by omega)
  have a5 := v.ui (i := (nth (invL o.1) i.toNat).toNat) (by omega)
  have a6 := invR v (i := (nth o.2 (nth (invL o.1) i.toNat).toNat).toNat) (by omega)
  have a7 := v.ri (i := (nth o.2 i.toNat).toNat) (by omega)
  refine Ct.mk Tryd.func95 rfl Tryd.ntmps95 rfl (fun w J => ?_)
  refine Tr.seq ?_
  refine Tr.rg ?_
  refine TrL.op (ok_assign rfl (fun _ => rfl)) rfl rfl ?_
  refine TrL.op (ok_assign rfl (fun _ => rfl)) rfl rfl ?_
  refine TrL.op (ok_assign rfl (fun _ => rfl)) rfl rfl ?_
  refine TrL.op (ok_assign rfl (fun _ => rfl)) rfl rfl ?_
  refine TrL.fin ?_
  refine End.nxt ?_
  refine Tr.seq ?_
  refine Tr.rg ?_
  refine TrL.op (ok_move rfl (fun _ => rfl)) rfl rfl ?_
  refine TrL.op (ok_assign rfl (fun _ => rfl)) rfl rfl ?_
  refine TrL.op (ok_assign rfl (fun _ => rfl)) rfl rfl ?_
  refine TrL.op (ok_assign rfl (fun _ => rfl)) rfl rfl ?_
  refine TrL.op (ok_assign rfl (fun _ => rfl)) rfl rfl ?_
  refine TrL.fin ?_
  refine End.nxt ?_
  refine Tr.ret ?_
  exact Rts.res (fn := Tryd.f95) (ts := [4, 5, 6, 7]) rfl rfl (.i rfl (by rfl) <| .i rfl (by rfl) <| .i rfl (by rfl) <| .i rfl (by rfl) <| .nil)

set_option maxRecDepth 100000 in
theorem ct_lO3 (o : Ori) (v : Valid o) : Ct Tryd.prog 96 [kPtr eG (gridOf o)] (kRd eO (letO 115 o)) := by
  have hv0 := v.pos
  have hv1 := v.len
  have hv2 := v.le
  have hl1 := invL_len o.1
  have hl2 := invL_len o.2
  refine Ct.mk Tryd.func96 rfl Tryd.ntmps96 rfl (fun w J => ?_)
  refine Tr.seq ?_
  refine Tr.rg ?_
  refine TrL.new (ok_alloc 2) rfl rfl rfl rfl ?_
  refine TrL.fin ?_
  refine End.nxt ?_
  refine Tr.seq ?_
  refine Tr.draw 8 mixed (by kernel_rfl) ?_
  refine RunD.op (ok_move rfl (fun _ => rfl)) rfl rfl ?_
  refine RunD.op (ok_nilP rfl (fun _ => rfl)) rfl rfl ?_
  refine RunD.op (ok_fldP rfl (fun _ => rfl) rfl) rfl rfl ?_
  refine RunD.op (ok_ldP rfl (fun _ => rfl) rfl) rfl rfl ?_
  refine RunD.op (ok_move rfl (fun _ => rfl)) rfl rfl ?_
  refine RunD.op (ok_nilP rfl (fun _ => rfl)) rfl rfl ?_
  refine RunD.op (ok_fldP rfl (fun _ => rfl) rfl) rfl rfl ?_
  refine RunD.op (ok_ldP rfl (fun _ => rfl) rfl) rfl rfl ?_
  refine RunD.z ?_
  refine TrL.op (ok_build (fun hp => .cons rfl rfl rfl <| .cons rfl rfl rfl <| .nil)) rfl rfl ?_
  refine TrL.stB rfl rfl rfl rfl ?_
  refine TrL.fin ?_
  refine End.nxt ?_
  refine Tr.ret ?_
  exact Rts.resC1 (fn := Tryd.f96) rfl rfl (aggRd rfl (by rfl))

set_option maxRecDepth 100000 in
theorem ct_lB3 (o : Ori) (i : Int) (v : Valid o) (_h0 : 0 ≤ i) (_h1 : i < o.1.length) : Ct Tryd.prog 97 [kPtr eG (gridOf o), kI i] (kTup [kI (bE 115 o i), kI (bS 115)]) := by
  have hv0 := v.pos
  have hv1 := v.len
  have hv2 := v.le
  have hl1 := invL_len o.1
  have hl2 := invL_len o.2
  have a1 := v.ri (i := i.toNat) (by omega)
  have a2 := v.ui (i := i.toNat) (by omega)
  have a3 := invR v (i := i.toNat) (by omega)
  have a4 := invU v (i := i.toNat) (by omega)
  have a5 := v.ui (i := (nth (invL o.1) i.toNat).toNat) (by omega)
  have a6 := invR v (i := (nth o.2 (nth (invL o.1) i.toNat).toNat).toNat) (by omega)
  have a7 := v.ri (i := (nth o.2 i.toNat).toNat) (by omega)
  refine Ct.mk Tryd.func97 rfl Tryd.ntmps97 rfl (fun w J => ?_)
  refine Tr.seq ?_
  refine Tr.rg ?_
  refine TrL.op (ok_assign rfl (fun _ => rfl)) rfl rfl ?_
  refine TrL.op (ok_assign rfl (fun _ => rfl)) rfl rfl ?_
  refine TrL.fin ?_
  refine End.nxt ?_
  refine Tr.seq ?_
  refine Tr.rg ?_
  refine TrL.op (ok_move rfl (fun _ => rfl)) rfl rfl ?_
  refine TrL.op (ok_nilP rfl (fun _ => rfl)) rfl rfl ?_
  refine TrL.op (ok_fldP rfl (fun _ => rfl) rfl) rfl rfl ?_
  refine TrL.op (ok_ldP rfl (fun _ => rfl) rfl) rfl rfl ?_
  refine TrL.op (ok_move rfl (fun _ => rfl)) rfl rfl ?_
  refine TrL.op (ok_add rfl (fun _ => rfl) rfl (fun _ => rfl) (fun _ => by omega)) rfl rfl ?_
  refine TrL.op (ok_assign rfl (fun _ => rfl)) rfl rfl ?_
  refine TrL.op (ok_assign rfl (fun _ => rfl)) rfl rfl ?_
  refine TrL.fin ?_
  refine End.nxt ?_
  refine Tr.ret ?_
  exact Rts.res (fn := Tryd.f97) (ts := [4, 5]) rfl rfl (.i rfl (by rfl) <| .i rfl (by rfl) <| .nil)

set_option maxRecDepth 100000 in
theorem ct_lL3 (o : Ori) (i : Int) (v : Valid o) (_h0 : 0 ≤ i) (_h1 : i < o.1.length) : Ct Tryd.prog 98 [kPtr eG (gridOf o), kI i] (kTup [kI (lE 115 o i), kI (lS 115), kI (lF 115 o i), kI (lT 115)]) := by
  have hv0 := v.pos
  have hv1 := v.len
  have hv2 := v.le
  have hl1 := invL_len o.1
  have hl2 := invL_len o.2
  have a1 := v.ri (i := i.toNat) (by omega)
  have a2 := v.ui (i := i.toNat) (by omega)
  have a3 := invR v (i := i.toNat) (by omega)
  have a4 := invU v (i := i.toNat) (by omega)
  have a5 := v.ui (i := (nth (invL o.1) i.toNat).toNat) (by omega)
  have a6 := invR v (i := (nth o.2 (nth (invL o.1) i.toNat).toNat).toNat) (by omega)
  have a7 := v.ri (i := (nth o.2 i.toNat).toNat) (by omega)
  refine Ct.mk Tryd.func98 rfl Tryd.ntmps98 rfl (fun w J => ?_)
  refine Tr.seq ?_
  refine Tr.rg ?_
  refine TrL.op (ok_assign rfl (fun _ => rfl)) rfl rfl ?_
  refine TrL.op (ok_assign rfl (fun _ => rfl)) rfl rfl ?_
  refine TrL.op (ok_assign rfl (fun _ => rfl)) rfl rfl ?_
  refine TrL.op (ok_assign rfl (fun _ => rfl)) rfl rfl ?_
  refine TrL.fin ?_
  refine End.nxt ?_
  refine Tr.seq ?_
  refine Tr.rg ?_
  refine TrL.op (ok_move rfl (fun _ => rfl)) rfl rfl ?_
  refine TrL.op (ok_nilP rfl (fun _ => rfl)) rfl rfl ?_
  refine TrL.op (ok_fldP rfl (fun _ => rfl) rfl) rfl rfl ?_
  refine TrL.op (ok_ldP rfl (fun _ => rfl) rfl) rfl rfl ?_
  refine TrL.op (ok_move rfl (fun _ => rfl)) rfl rfl ?_
  first | refine TrL.op (ok_idxN rfl (fun _ => rfl) rfl (fun _ => rfl) rfl (fun _ => by omega)) rfl rfl ?_ | refine TrL.op (ok_idxP rfl (fun _ => rfl) rfl (fun _ => rfl) rfl (fun _ => by omega)) rfl rfl ?_
  refine TrL.op (ok_ldP rfl (fun _ => rfl) rfl) rfl rfl ?_
  refine TrL.op (ok_assign rfl (fun _ => rfl)) rfl rfl ?_
  refine TrL.op (ok_assign rfl (fun _ => rfl)) rfl rfl ?_
  refine TrL.op (ok_assign rfl (fun _ => rfl)) rfl rfl ?_
  refine TrL.op (ok_assign rfl (fun _ => rfl)) rfl rfl ?_
  refine TrL.fin ?_
  refine End.nxt ?_
  refine Tr.ret ?_
  exact Rts.res (fn := Tryd.f98) (ts := [4, 5, 6, 7]) rfl rfl (.i rfl (by rfl) <| .i rfl (by rfl) <| .i rfl (by rfl) <| .i rfl (by rfl) <| .nil)

set_option maxRecDepth 100000 in
theorem ct_letters  : CtN Tryd.prog 66 [] (kMapP) (cMap [.int .i32 84, .int .i32 116, .int .i32 83, .int .i32 115] [kAgg [kDet (.func (.func (86 : FuncId)) #[] #[]), kDet (.func (.func (88 : FuncId)) #[] #[]), kDet (.func (.func (89 : FuncId)) #[] #[])], kAgg [kDet (.func (.func (90 : FuncId)) #[] #[]), kDet (.func (.func (91 : FuncId)) #[] #[]), kDet (.func (.func (92 : FuncId)) #[] #[])], kAgg [kDet (.func (.func (93 : FuncId)) #[] #[]), kDet (.func (.func (94 : FuncId)) #[] #[]), kDet (.func (.func (95 : FuncId)) #[] #[])], kAgg [kDet (.func (.func (96 : FuncId)) #[] #[]), kDet (.func (.func (97 : FuncId)) #[] #[]), kDet (.func (.func (98 : FuncId)) #[] #[])]]) := by
  refine CtN.mk Tryd.func66 rfl Tryd.ntmps66 rfl (fun w J => ?_)
  refine Tr.seq ?_
  refine Tr.rg ?_
  refine TrL.op (ok_assign rfl (fun _ => rfl)) rfl rfl ?_
  refine TrL.fin ?_
  refine End.nxt ?_
  refine Tr.seq ?_
  refine Tr.rg ?_
  refine TrL.new (ok_makeMap 1) rfl rfl rfl rfl ?_
  refine TrL.op (ok_build (fun hp => .cons rfl rfl rfl <| .cons rfl rfl rfl <| .cons rfl rfl rfl <| .nil)) rfl rfl ?_
  refine TrL.ins rfl rfl rfl rfl (by simp [MapKept.IsKey]) (by simp [MapKept.IsKey]) (by simp) ?_
  refine TrL.op (ok_build (fun hp => .cons rfl rfl rfl <| .cons rfl rfl rfl <| .cons rfl rfl rfl <| .nil)) rfl rfl ?_
  refine TrL.ins rfl rfl rfl rfl (by simp [MapKept.IsKey]) (by simp [MapKept.IsKey]) (by simp) ?_
  refine TrL.op (ok_build (fun hp => .cons rfl rfl rfl <| .cons rfl rfl rfl <| .cons rfl rfl rfl <| .nil)) rfl rfl ?_
  refine TrL.ins rfl rfl rfl rfl (by simp [MapKept.IsKey]) (by simp [MapKept.IsKey]) (by simp) ?_
  refine TrL.op (ok_build (fun hp => .cons rfl rfl rfl <| .cons rfl rfl rfl <| .cons rfl rfl rfl <| .nil)) rfl rfl ?_
  refine TrL.ins rfl rfl rfl rfl (by simp [MapKept.IsKey]) (by simp [MapKept.IsKey]) (by simp) ?_
  refine TrL.op (ok_move rfl (fun _ => rfl)) rfl rfl ?_
  refine TrL.op (ok_assign rfl (fun _ => rfl)) rfl rfl ?_
  refine TrL.fin ?_
  refine End.nxt ?_
  refine Tr.ret ?_
  exact Rts.resN (fn := Tryd.f66) (u := 1) rfl rfl (fun _ _ _ h => h) mapP_res inferInstance

set_option maxRecDepth 100000 in
theorem ct_checkWord (s : ByteArray) (hs : s.size ≤ 1000000) : Ct Tryd.prog 43 [kS s] (kI (chkW (bs s))) := by
  have hbl := bs_len (s := s)
  refine Ct.mk Tryd.func43 rfl Tryd.ntmps43 rfl (fun w J => ?_)
  refine Tr.seq ?_
  refine Tr.rg ?_
  refine TrL.op (ok_assign rfl (fun _ => rfl)) rfl rfl ?_
  refine TrL.fin ?_
  refine End.nxt ?_
  refine Tr.seq ?_
  refine Tr.seq ?_
  refine Tr.rg ?_
  refine TrL.op (ok_move rfl (fun _ => rfl)) rfl rfl ?_
  refine TrL.op (ok_lenS rfl (fun _ => rfl)) rfl rfl ?_
  refine TrL.op (ok_gtr rfl (fun _ => rfl) rfl (fun _ => rfl)) rfl rfl ?_
  refine TrL.fin ?_
  refine End.nxt ?_
  refine Tr.cnd rfl ?_ ?_
  · intro h1
    replace h1 := of_decide_eq_true h1
    refine Tr.seq ?_
    refine Tr.rg ?_
    refine TrL.op (ok_assign rfl (fun _ => rfl)) rfl rfl ?_
    refine TrL.fin ?_
    refine End.nxt ?_
    refine Tr.ret ?_
    refine Rts.thn ?_
    exact Rts.res1 (fn := Tryd.f43) rfl (.i rfl (by unfold chkW; rw [if_pos (by omega)]) <| .nil)
  · intro h1
    replace h1 := Int.not_lt.1 (of_decide_eq_false h1)
    refine Tr.skip ?_
    refine End.nxt ?_
    refine Tr.seq ?_
    refine Tr.seq ?_
    refine Tr.rg ?_
    refine TrL.op (ok_move rfl (fun _ => rfl)) rfl rfl ?_
    refine TrL.op (ok_call (fun hp => ct_Trim _ hs) (.a rfl (fun _ => rfl) <| .a rfl (fun _ => rfl) <| .nil)) rfl rfl ?_
    refine TrL.op (ok_neqS rfl (fun _ => rfl) rfl (fun _ => rfl)) rfl rfl ?_
    refine TrL.fin ?_
    refine End.nxt ?_
    refine Tr.cnd rfl ?_ ?_
    · intro h3
      replace h3 := trim_let.1 (of_decide_eq_true h3)
      refine Tr.seq ?_
      refine Tr.rg ?_
      refine TrL.op (ok_assign rfl (fun _ => rfl)) rfl rfl ?_
      refine TrL.fin ?_
      refine End.nxt ?_
      refine Tr.ret ?_
      refine Rts.thn ?_
      exact Rts.res1 (fn := Tryd.f43) rfl (.i rfl (by unfold chkW; rw [if_neg (by omega), if_neg (by rw [h3]; simp)]) <| .nil)
    · intro h3
      replace h3 : (bs s).all isLet = true := (by (cases hh : (bs s).all isLet; exact absurd (trim_let.2 hh) (of_decide_eq_false h3); rfl))
      refine Tr.skip ?_
      refine End.nxt ?_
      refine Tr.seq ?_
      refine Tr.rg ?_
      refine TrL.op (ok_assign rfl (fun _ => rfl)) rfl rfl ?_
      refine TrL.fin ?_
      refine End.nxt ?_
      refine Tr.ret ?_
      exact Rts.res1 (fn := Tryd.f43) rfl (.i rfl (by unfold chkW; rw [if_neg (by omega), if_pos h3]) <| .nil)


theorem ct_lfO {x : Int} (hx : isLet x = true) {o : Ori} (v : Valid o) : Ct Tryd.prog (lfO x) [kPtr eG (gridOf o)] (kRd eO (letO x o)) := by
  rcases isLet_cases hx with rfl | rfl | rfl | rfl
  · exact ct_lO0 _ v
  · exact ct_lO1 _ v
  · exact ct_lO2 _ v
  · exact ct_lO3 _ v
theorem ct_lfB {x : Int} (hx : isLet x = true) {o : Ori} (v : Valid o) {i : Int} (h0 : 0 ≤ i) (h1 : i < o.1.length) : Ct Tryd.prog (lfB x) [kPtr eG (gridOf o), kI i] (kTup [kI (bE x o i), kI (bS x)]) := by
  rcases isLet_cases hx with rfl | rfl | rfl | rfl
  · exact ct_lB0 _ _ v h0 h1
  · exact ct_lB1 _ _ v h0 h1
  · exact ct_lB2 _ _ v h0 h1
  · exact ct_lB3 _ _ v h0 h1
theorem ct_lfL {x : Int} (hx : isLet x = true) {o : Ori} (v : Valid o) {i : Int} (h0 : 0 ≤ i) (h1 : i < o.1.length) : Ct Tryd.prog (lfL x) [kPtr eG (gridOf o), kI i] (kTup [kI (lE x o i), kI (lS x), kI (lF x o i), kI (lT x)]) := by
  rcases isLet_cases hx with rfl | rfl | rfl | rfl
  · exact ct_lL0 _ _ v h0 h1
  · exact ct_lL1 _ _ v h0 h1
  · exact ct_lL2 _ _ v h0 h1
  · exact ct_lL3 _ _ v h0 h1

set_option maxRecDepth 100000 in
set_option maxHeartbeats 1000000 in
theorem ct_push (o : Ori) (s : ByteArray) (l : List (List Int)) (v : Valid o) (hw : (bs s).all isLet = true) (hwl : (bs s).length ≤ 20) (hl : ∀ i, i < l.length → (nth l i).length = 2 * o.1.length) (hn : l.length ≤ 1000) : Ct Tryd.prog 44 [kPtr eG (gridOf o), kS s, kRd (eL (eL eI)) l] (kTup [kPtr eG (gridOf (pO (bs s) o)), kRd (eL (eL eI)) (l.map (pC (bs s) o))]) := by
  have hbl := bs_len (s := s)
  have hv1 := v.len
  have hv2 := v.le
  refine Ct.mk Tryd.func44 rfl Tryd.ntmps44 rfl (fun w J => ?_)
  refine Tr.seq ?_
  refine Tr.rg ?_
  refine TrL.op (ok_assign rfl (fun _ => rfl)) rfl rfl ?_
  refine TrL.op (ok_assign rfl (fun _ => rfl)) rfl rfl ?_
  refine TrL.fin ?_
  refine End.nxt ?_
  refine Tr.seq ?_
  refine Tr.rg ?_
  refine TrL.new (ok_callN 20 (fun hp => ct_letters) (.nil)) rfl rfl rfl rfl ?_
  refine TrL.op (ok_assign rfl (fun _ => rfl)) rfl rfl ?_
  refine TrL.fin ?_
  refine End.nxt ?_
  refine Tr.seq ?_
  refine Tr.seq ?_
  refine Tr.rg ?_
  refine TrL.op (ok_move rfl (fun _ => rfl)) rfl rfl ?_
  refine TrL.op (ok_lenS rfl (fun _ => rfl)) rfl rfl ?_
  refine TrL.op (ok_sub rfl (fun _ => rfl) rfl (fun _ => rfl) (fun _ => by omega)) rfl rfl ?_
  refine TrL.op (ok_assign rfl (fun _ => rfl)) rfl rfl ?_
  refine TrL.fin ?_
  refine End.nxt ?_
  refine Tr.for1 (σ := Nat) [⟨1, true, _, _⟩, ⟨8, true, _, _⟩] [⟨20, _, _⟩] (fun j => [⟨0, true, [], kPtr eG (gridOf (pO ((bs s).drop j) o))⟩, ⟨2, true, [], kRd (eL (eL eI)) (l.map (pC ((bs s).drop j) o))⟩, ⟨9, true, [], kI ((j : Int) - 1)⟩]) (fun j => []) (fun j => j ≤ (bs s).length) (fun j => j = 0) (fun j => j) ((bs s).length) (by first | rfl | omega | (simp; done) | (simp; omega) | assumption) (Ent.mk (.p rfl (by rw [List.drop_length]; rfl) <| .r rfl (by rw [List.drop_length]; exact (List.map_id'' (fun _ => rfl) _).symm) <| .i rfl (by first | rfl | omega | (simp; done) | (simp; omega) | assumption) <| .k rfl rfl <| .k rfl rfl <| .nil) (.k rfl <| .nil) rfl) ?_ ?_
  · intro j hR0
    refine Tr.norm (S' := [⟨0, true, _, _⟩, ⟨2, true, _, _⟩, ⟨9, true, _, _⟩, ⟨1, true, _, _⟩, ⟨8, true, _, _⟩]) (M' := [⟨20, _, _⟩]) rfl rfl ?_
    have hvv := pO_valid v ((bs s).drop j)
    have v2 := hvv.1
    have hlen2 := hvv.2
    have hv3 := v2.len
    have hL : ∀ q, q < (l.map (pC ((bs s).drop j) o)).length → (nth (l.map (pC ((bs s).drop j) o)) q).length = 2 * (pO ((bs s).drop j) o).1.length := fun q hq => by (rw [List.length_map] at hq; rw [nth_map hq, pC_len v (hl q hq), hlen2])
    have hLl : (l.map (pC ((bs s).drop j) o)).length = l.length := List.length_map ..
    refine Tr.seq ?_
    refine Tr.seq ?_
    refine Tr.rg ?_
    refine TrL.op (ok_move rfl (fun _ => rfl)) rfl rfl ?_
    refine TrL.op (ok_geq rfl (fun _ => rfl) rfl (fun _ => rfl)) rfl rfl ?_
    refine TrL.fin ?_
    refine End.nxt ?_
    refine Tr.cnd rfl ?_ ?_
    · intro h3
      replace h3 := of_decide_eq_true h3
      refine Tr.skip ?_
      refine End.nxt ?_
      refine Tr.seq ?_
      refine Tr.blk ?_
      refine Tr.seq ?_
      refine Tr.rg ?_
      have hb8 := bs_nth_rng (s := s) (i := j - 1) (by omega)
      have hx := all_drop hw (j := j - 1) (by omega)
      refine TrL.op (ok_move rfl (fun _ => rfl)) rfl rfl ?_
      refine TrL.op (ok_move rfl (fun _ => rfl)) rfl rfl ?_
      refine TrL.op (ok_move rfl (fun _ => rfl)) rfl rfl ?_
      refine TrL.op (ok_idxS rfl (fun _ => rfl) (i := j - 1) (by rw [show ((j - 1 : Nat) : Int) = (j : Int) - 1 by omega]; rfl) (fun _ => rfl) (fun _ => by omega)) rfl rfl ?_
      refine TrL.op (ok_convE (nth (bs s) (j - 1)) rfl (fun _ => rfl) (fun _ => conv_i32 hb8.1 hb8.2)) rfl rfl ?_
      refine TrL.op (ok_lookup (k := kAgg [kDet (.func (.func (lfO (nth (bs s) (j - 1)))) #[] #[]), kDet (.func (.func (lfB (nth (bs s) (j - 1)))) #[] #[]), kDet (.func (.func (lfL (nth (bs s) (j - 1)))) #[] #[])]) rfl (fun _ => rfl) rfl (fun _ => rfl) (by simp [MapKept.IsKey]) (by simp [MapKept.IsKey]) (fun _ => letters_in hx) (letters_hk hx)) rfl rfl ?_
      refine TrL.new (ok_alloc 10) rfl rfl rfl rfl ?_
      refine TrL.stB rfl rfl rfl rfl ?_
      refine TrL.fin ?_
      refine End.nxt ?_
      refine Tr.seq ?_
      refine Tr.rg ?_
      refine TrL.op (ok_assign rfl (fun _ => rfl)) rfl rfl ?_
      refine TrL.fin ?_
      refine End.nxt ?_
      refine Tr.seq ?_
      refine Tr.seq ?_
      refine Tr.rg ?_
      refine TrL.op (ok_move rfl (fun _ => rfl)) rfl rfl ?_
      refine TrL.op (ok_lenJ rfl (fun _ => rfl)) rfl rfl ?_
      refine TrL.op (ok_move rfl (fun _ => rfl)) rfl rfl ?_
      refine TrL.fin ?_
      refine End.nxt ?_
      refine Tr.grow (s := 11) rfl rfl 11 rfl 22 (eL eI) rfl ?_
      refine Tr.for1 (σ := Nat) [⟨0, true, _, _⟩, ⟨1, true, _, _⟩, ⟨8, true, _, _⟩, ⟨9, true, _, _⟩, ⟨10, true, _, _⟩, ⟨34, true, _, _⟩, ⟨35, true, _, _⟩] [⟨20, _, _⟩, ⟨10, _, _⟩] (fun m => [⟨36, true, [], kI (m : Int)⟩, ⟨11, true, [11], kOsl 11 m⟩]) (fun m => [⟨11, [], cArr true 22 (eL eI) (tab m (fun q => letC (nth (bs s) (j - 1)) (pO ((bs s).drop j) o) (nth (l.map (pC ((bs s).drop j) o)) q))) m⟩]) (fun m => m ≤ (l.map (pC ((bs s).drop j) o)).length) (fun m => m = (l.map (pC ((bs s).drop j) o)).length) (fun m => (l.map (pC ((bs s).drop j) o)).length - m) (0) (Nat.zero_le _) (Ent.mk (.i rfl (by first | rfl | omega | (simp; done) | (simp; omega) | assumption) <| .o rfl (by first | rfl | omega | (simp; done) | (simp; omega) | assumption) rfl <| .k rfl rfl <| .k rfl rfl <| .k rfl rfl <| .k rfl rfl <| .k rfl rfl <| .k rfl rfl <| .k rfl rfl <| .nil) (.a (by rfl) (by first | rfl | omega | (simp; done) | (simp; omega) | assumption) <| .k rfl <| .k rfl <| .nil) rfl) ?_ ?_
      · intro m hR1
        refine Tr.norm (S' := [⟨36, true, _, _⟩, ⟨11, true, _, _⟩, ⟨0, true, _, _⟩, ⟨1, true, _, _⟩, ⟨8, true, _, _⟩, ⟨9, true, _, _⟩, ⟨10, true, _, _⟩, ⟨34, true, _, _⟩, ⟨35, true, _, _⟩]) (M' := [⟨11, _, _⟩, ⟨20, _, _⟩, ⟨10, _, _⟩]) rfl rfl ?_
        have hLm := hL m
        refine Tr.seq ?_
        refine Tr.rg ?_
        refine TrL.op (ok_lss rfl (fun _ => rfl) rfl (fun _ => rfl)) rfl rfl ?_
        refine TrL.fin ?_
        refine End.nxt ?_
        refine Tr.seq ?_
        refine Tr.cnd rfl ?_ ?_
        · intro h8
          replace h8 := of_decide_eq_true h8
          refine Tr.skip ?_
          refine End.nxt ?_
          refine Tr.seq ?_
          refine Tr.blk ?_
          refine Tr.seq ?_
          refine Tr.rg ?_
          first | refine TrL.op (ok_idxN rfl (fun _ => rfl) rfl (fun _ => rfl) rfl (fun _ => by omega)) rfl rfl ?_ | refine TrL.op (ok_idxP rfl (fun _ => rfl) rfl (fun _ => rfl) rfl (fun _ => by omega)) rfl rfl ?_
          refine TrL.op (ok_ldP rfl (fun _ => rfl) rfl) rfl rfl ?_
          refine TrL.op (ok_assign rfl (fun _ => rfl)) rfl rfl ?_
          refine TrL.fin ?_
          refine End.nxt ?_
          refine Tr.seq ?_
          refine Tr.rg ?_
          refine TrL.op (ok_move rfl (fun _ => rfl)) rfl rfl ?_
          refine TrL.op (ok_nilP rfl (fun _ => rfl)) rfl rfl ?_
          refine TrL.op (ok_fldP rfl (fun _ => rfl) rfl) rfl rfl ?_
          refine TrL.op (ok_ldP rfl (fun _ => rfl) rfl) rfl rfl ?_
          refine TrL.op (ok_mul rfl (fun _ => rfl) rfl (fun _ => rfl) (fun _ => by omega)) rfl rfl ?_
          refine TrL.new (ok_make eI 45 rfl (fun _ => rfl) rfl (fun _ => rfl) rfl rfl (fun _ => by omega)) rfl rfl rfl rfl ?_
          refine TrL.op (ok_assign rfl (fun _ => rfl)) rfl rfl ?_
          refine TrL.fin ?_
          refine End.nxt ?_
          refine Tr.seq ?_
          refine Tr.seq ?_
          refine Tr.rg ?_
          refine TrL.op (ok_move rfl (fun _ => rfl)) rfl rfl ?_
          refine TrL.op (ok_nilP rfl (fun _ => rfl)) rfl rfl ?_
          refine TrL.op (ok_fldP rfl (fun _ => rfl) rfl) rfl rfl ?_
          refine TrL.op (ok_ldP rfl (fun _ => rfl) rfl) rfl rfl ?_
          refine TrL.op (ok_move rfl (fun _ => rfl)) rfl rfl ?_
          refine TrL.fin ?_
          refine End.nxt ?_
          refine Tr.for1 (σ := Nat) [⟨0, true, _, _⟩, ⟨1, true, _, _⟩, ⟨8, true, _, _⟩, ⟨9, true, _, _⟩, ⟨10, true, _, _⟩, ⟨11, true, _, _⟩, ⟨13, true, _, _⟩, ⟨14, true, _, _⟩, ⟨34, true, _, _⟩, ⟨35, true, _, _⟩, ⟨36, true, _, _⟩, ⟨49, true, _, _⟩] [⟨20, _, _⟩, ⟨10, _, _⟩, ⟨11, _, _⟩] (fun k => [⟨50, true, [], kI (k : Int)⟩]) (fun k => [⟨45, [], cArr false 3 eI (letK (nth (bs s) (j - 1)) (pO ((bs s).drop j) o) (nth (l.map (pC ((bs s).drop j) o)) m) k) (2 * (pO ((bs s).drop j) o).1.length)⟩]) (fun k => k ≤ (pO ((bs s).drop j) o).1.length) (fun k => k = (pO ((bs s).drop j) o).1.length) (fun k => (pO ((bs s).drop j) o).1.length - k) (0) (Nat.zero_le _) (Ent.mk (.i rfl (by first | rfl | omega | (simp; done) | (simp; omega) | assumption) <| .k rfl rfl <| .k rfl rfl <| .k rfl rfl <| .k rfl rfl <| .k rfl rfl <| .k rfl rfl <| .k rfl rfl <| .k rfl rfl <| .k rfl rfl <| .k rfl rfl <| .k rfl rfl <| .k rfl rfl <| .nil) (.a (by rw [show ((2 : Int) * (pO ((bs s).drop j) o).1.length).toNat = 2 * (pO ((bs s).drop j) o).1.length by omega]; exact letK_zero) (by omega) <| .k rfl <| .k rfl <| .k rfl <| .nil) rfl) ?_ ?_
          · intro k hR2
            refine Tr.norm (S' := [⟨50, true, _, _⟩, ⟨0, true, _, _⟩, ⟨1, true, _, _⟩, ⟨8, true, _, _⟩, ⟨9, true, _, _⟩, ⟨10, true, _, _⟩, ⟨11, true, _, _⟩, ⟨13, true, _, _⟩, ⟨14, true, _, _⟩, ⟨34, true, _, _⟩, ⟨35, true, _, _⟩, ⟨36, true, _, _⟩, ⟨49, true, _, _⟩]) (M' := [⟨45, _, _⟩, ⟨20, _, _⟩, ⟨10, _, _⟩, ⟨11, _, _⟩]) rfl rfl ?_
            refine Tr.seq ?_
            refine Tr.rg ?_
            refine TrL.op (ok_lss rfl (fun _ => rfl) rfl (fun _ => rfl)) rfl rfl ?_
            refine TrL.fin ?_
            refine End.nxt ?_
            refine Tr.seq ?_
            refine Tr.cnd rfl ?_ ?_
            · intro h12
              replace h12 := of_decide_eq_true h12
              refine Tr.skip ?_
              refine End.nxt ?_
              refine Tr.seq ?_
              refine Tr.blk ?_
              refine Tr.seq ?_
              refine Tr.rg ?_
              have r1 := bE_rng v2 (x := (nth (bs s) (j - 1))) (i := k) (by omega) (by omega)
              have r2 := lE_rng v2 (x := (nth (bs s) (j - 1))) (i := k) (by omega) (by omega)
              have r3 := lF_rng v2 (x := (nth (bs s) (j - 1))) (i := k) (by omega) (by omega)
              refine TrL.op (ok_move rfl (fun _ => rfl)) rfl rfl ?_
              refine TrL.op (ok_assign rfl (fun _ => rfl)) rfl rfl ?_
              refine TrL.fin ?_
              refine End.nxt ?_
              refine Tr.seq ?_
              refine Tr.rg ?_
              refine TrL.op (ok_fldO rfl (fun _ => rfl)) rfl rfl ?_
              refine TrL.op (ok_ldB rfl (fun _ => rfl) rfl) rfl rfl ?_
              refine TrL.op (ok_move rfl (fun _ => rfl)) rfl rfl ?_
              refine TrL.op (ok_move rfl (fun _ => rfl)) rfl rfl ?_
              refine TrL.op (ok_callV rfl (fun _ => rfl) (fun hp => ct_lfB hx v2 (by omega) (by omega)) (.a rfl (fun _ => rfl) <| .a rfl (fun _ => rfl) <| .nil)) rfl rfl ?_
              refine TrL.op (ok_move rfl (fun _ => rfl)) rfl rfl ?_
              refine TrL.op (ok_ext rfl (fun _ => rfl) rfl) rfl rfl ?_
              refine TrL.op (ok_ext rfl (fun _ => rfl) rfl) rfl rfl ?_
              refine TrL.op (ok_assign rfl (fun _ => rfl)) rfl rfl ?_
              refine TrL.op (ok_assign rfl (fun _ => rfl)) rfl rfl ?_
              refine TrL.fin ?_
              refine End.nxt ?_
              refine Tr.seq ?_
              refine Tr.draw 10 mixed (by kernel_rfl) ?_
              refine RunD.op (ok_move rfl (fun _ => rfl)) rfl rfl ?_
              refine RunD.op (ok_move rfl (fun _ => rfl)) rfl rfl ?_
              refine RunD.op (ok_idxE rfl (fun _ => rfl) rfl (fun _ => rfl) (fun _ => by omega)) rfl rfl ?_
              refine RunD.op (ok_ldE rfl (fun _ => rfl) rfl rfl rfl) rfl rfl ?_
              refine RunD.op (ok_move rfl (fun _ => rfl)) rfl rfl ?_
              refine RunD.op (ok_move rfl (fun _ => rfl)) rfl rfl ?_
              refine RunD.op (ok_move rfl (fun _ => rfl)) rfl rfl ?_
              first | refine RunD.op (ok_idxN rfl (fun _ => rfl) rfl (fun _ => rfl) rfl (fun _ => by omega)) rfl rfl ?_ | refine RunD.op (ok_idxP rfl (fun _ => rfl) rfl (fun _ => rfl) rfl (fun _ => by omega)) rfl rfl ?_
              refine RunD.op (ok_ldP rfl (fun _ => rfl) rfl) rfl rfl ?_
              refine RunD.op (ok_mulW rfl (fun _ => rfl) rfl (fun _ => rfl)) rfl rfl ?_
              refine RunD.z ?_
              refine TrL.op (ok_addW rfl (fun _ => rfl) rfl (fun _ => rfl)) rfl rfl ?_
              refine TrL.op (ok_idxE rfl (fun _ => rfl) rfl (fun _ => rfl) (fun _ => by omega)) rfl rfl ?_
              refine TrL.stE rfl rfl rfl rfl rfl ?_
              refine TrL.fin ?_
              refine End.nxt ?_
              refine Tr.seq ?_
              refine Tr.rg ?_
              refine TrL.op (ok_fldO rfl (fun _ => rfl)) rfl rfl ?_
              refine TrL.op (ok_ldB rfl (fun _ => rfl) rfl) rfl rfl ?_
              refine TrL.op (ok_move rfl (fun _ => rfl)) rfl rfl ?_
              refine TrL.op (ok_move rfl (fun _ => rfl)) rfl rfl ?_
              refine TrL.op (ok_callV rfl (fun _ => rfl) (fun hp => ct_lfL hx v2 (by omega) (by omega)) (.a rfl (fun _ => rfl) <| .a rfl (fun _ => rfl) <| .nil)) rfl rfl ?_
              refine TrL.op (ok_move rfl (fun _ => rfl)) rfl rfl ?_
              refine TrL.op (ok_ext rfl (fun _ => rfl) rfl) rfl rfl ?_
              refine TrL.op (ok_ext rfl (fun _ => rfl) rfl) rfl rfl ?_
              refine TrL.op (ok_ext rfl (fun _ => rfl) rfl) rfl rfl ?_
              refine TrL.op (ok_ext rfl (fun _ => rfl) rfl) rfl rfl ?_
              refine TrL.op (ok_assign rfl (fun _ => rfl)) rfl rfl ?_
              refine TrL.op (ok_assign rfl (fun _ => rfl)) rfl rfl ?_
              refine TrL.op (ok_assign rfl (fun _ => rfl)) rfl rfl ?_
              refine TrL.op (ok_assign rfl (fun _ => rfl)) rfl rfl ?_
              refine TrL.fin ?_
              refine End.nxt ?_
              refine Tr.seq ?_
              refine Tr.draw 15 mixed (by kernel_rfl) ?_
              refine RunD.op (ok_move rfl (fun _ => rfl)) rfl rfl ?_
              refine RunD.op (ok_move rfl (fun _ => rfl)) rfl rfl ?_
              refine RunD.op (ok_idxE rfl (fun _ => rfl) rfl (fun _ => rfl) (fun _ => by omega)) rfl rfl ?_
              refine RunD.op (ok_ldE rfl (fun _ => rfl) rfl rfl rfl) rfl rfl ?_
              refine RunD.op (ok_move rfl (fun _ => rfl)) rfl rfl ?_
              refine RunD.op (ok_move rfl (fun _ => rfl)) rfl rfl ?_
              refine RunD.op (ok_move rfl (fun _ => rfl)) rfl rfl ?_
              refine RunD.op (ok_nilP rfl (fun _ => rfl)) rfl rfl ?_
              refine RunD.op (ok_fldP rfl (fun _ => rfl) rfl) rfl rfl ?_
              refine RunD.op (ok_ldP rfl (fun _ => rfl) rfl) rfl rfl ?_
              refine RunD.op (ok_move rfl (fun _ => rfl)) rfl rfl ?_
              refine RunD.op (ok_add rfl (fun _ => rfl) rfl (fun _ => rfl) (fun _ => by omega)) rfl rfl ?_
              first | refine RunD.op (ok_idxN rfl (fun _ => rfl) rfl (fun _ => rfl) rfl (fun _ => by omega)) rfl rfl ?_ | refine RunD.op (ok_idxP rfl (fun _ => rfl) rfl (fun _ => rfl) rfl (fun _ => by omega)) rfl rfl ?_
              refine RunD.op (ok_ldP rfl (fun _ => rfl) rfl) rfl rfl ?_
              refine RunD.op (ok_mulW rfl (fun _ => rfl) rfl (fun _ => rfl)) rfl rfl ?_
              refine RunD.z ?_
              refine TrL.op (ok_addW rfl (fun _ => rfl) rfl (fun _ => rfl)) rfl rfl ?_
              refine TrL.op (ok_idxE rfl (fun _ => rfl) rfl (fun _ => rfl) (fun _ => by omega)) rfl rfl ?_
              refine TrL.stE rfl rfl rfl rfl rfl ?_
              refine TrL.fin ?_
              refine End.nxt ?_
              refine Tr.draw 15 mixed (by kernel_rfl) ?_
              refine RunD.op (ok_move rfl (fun _ => rfl)) rfl rfl ?_
              refine RunD.op (ok_move rfl (fun _ => rfl)) rfl rfl ?_
              refine RunD.op (ok_idxE rfl (fun _ => rfl) rfl (fun _ => rfl) (fun _ => by omega)) rfl rfl ?_
              refine RunD.op (ok_ldE rfl (fun _ => rfl) rfl rfl rfl) rfl rfl ?_
              refine RunD.op (ok_move rfl (fun _ => rfl)) rfl rfl ?_
              refine RunD.op (ok_move rfl (fun _ => rfl)) rfl rfl ?_
              refine RunD.op (ok_move rfl (fun _ => rfl)) rfl rfl ?_
              refine RunD.op (ok_nilP rfl (fun _ => rfl)) rfl rfl ?_
              refine RunD.op (ok_fldP rfl (fun _ => rfl) rfl) rfl rfl ?_
              refine RunD.op (ok_ldP rfl (fun _ => rfl) rfl) rfl rfl ?_
              refine RunD.op (ok_move rfl (fun _ => rfl)) rfl rfl ?_
              refine RunD.op (ok_add rfl (fun _ => rfl) rfl (fun _ => rfl) (fun _ => by omega)) rfl rfl ?_
              first | refine RunD.op (ok_idxN rfl (fun _ => rfl) rfl (fun _ => rfl) rfl (fun _ => by omega)) rfl rfl ?_ | refine RunD.op (ok_idxP rfl (fun _ => rfl) rfl (fun _ => rfl) rfl (fun _ => by omega)) rfl rfl ?_
              refine RunD.op (ok_ldP rfl (fun _ => rfl) rfl) rfl rfl ?_
              refine RunD.op (ok_mulW rfl (fun _ => rfl) rfl (fun _ => rfl)) rfl rfl ?_
              refine RunD.z ?_
              refine TrL.op (ok_addW rfl (fun _ => rfl) rfl (fun _ => rfl)) rfl rfl ?_
              refine TrL.op (ok_idxE rfl (fun _ => rfl) rfl (fun _ => rfl) (fun _ => by omega)) rfl rfl ?_
              refine TrL.stE rfl rfl rfl rfl rfl ?_
              refine TrL.fin ?_
              refine End.blk ?_
              refine End.nxt ?_
              refine Tr.rg ?_
              refine TrL.op (ok_add rfl (fun _ => rfl) rfl (fun _ => rfl) (fun _ => by omega)) rfl rfl ?_
              refine TrL.op (ok_move rfl (fun _ => rfl)) rfl rfl ?_
              refine TrL.fin ?_
              exact End.lp (k + 1) (by first | rfl | omega | (simp; done) | (simp; omega) | assumption) (by omega) (Ent.mk (.i rfl (by first | rfl | omega | (simp; done) | (simp; omega) | assumption) <| .k rfl rfl <| .k rfl rfl <| .k rfl rfl <| .k rfl rfl <| .k rfl rfl <| .k rfl rfl <| .k rfl rfl <| .k rfl rfl <| .k rfl rfl <| .k rfl rfl <| .k rfl rfl <| .k rfl rfl <| .nil) (.a (letK_succ v2 (by omega) rfl rfl rfl rfl rfl rfl) (by first | rfl | omega | (simp; done) | (simp; omega) | assumption) <| .k rfl <| .k rfl <| .k rfl <| .nil) rfl)
            · intro h12
              replace h12 := Int.not_lt.1 (of_decide_eq_false h12)
              refine Tr.exit ?_
              refine Exs.thn ?_
              refine Exs.thn ?_
              refine Exs.here ?_
              exact End.cut (k) (by omega) (Ent.mk (.i rfl (by first | rfl | omega | (simp; done) | (simp; omega) | assumption) <| .k rfl rfl <| .k rfl rfl <| .k rfl rfl <| .k rfl rfl <| .k rfl rfl <| .k rfl rfl <| .k rfl rfl <| .k rfl rfl <| .k rfl rfl <| .k rfl rfl <| .k rfl rfl <| .k rfl rfl <| .nil) (.a (by first | rfl | omega | (simp; done) | (simp; omega) | assumption) (by first | rfl | omega | (simp; done) | (simp; omega) | assumption) <| .k rfl <| .k rfl <| .k rfl <| .nil) rfl)
          · rintro _ rfl
            refine End.norm (S' := [⟨50, true, _, _⟩, ⟨0, true, _, _⟩, ⟨1, true, _, _⟩, ⟨8, true, _, _⟩, ⟨9, true, _, _⟩, ⟨10, true, _, _⟩, ⟨11, true, _, _⟩, ⟨13, true, _, _⟩, ⟨14, true, _, _⟩, ⟨34, true, _, _⟩, ⟨35, true, _, _⟩, ⟨36, true, _, _⟩, ⟨49, true, _, _⟩]) (M' := [⟨45, _, _⟩, ⟨20, _, _⟩, ⟨10, _, _⟩, ⟨11, _, _⟩]) rfl rfl ?_
            refine End.nxt ?_
            refine Tr.rg ?_
            refine TrL.op (ok_move rfl (fun _ => rfl)) rfl rfl ?_
            refine TrL.op (ok_move rfl (fun _ => rfl)) rfl rfl ?_
            refine TrL.frz 45 [14, 119] ⟨rfl, rfl, trivial⟩ (by simp only [lenMax]; omega) rfl ?_
            refine TrL.norm (S' := [⟨_, _, _, _⟩, ⟨_, _, _, _⟩, ⟨_, _, _, _⟩, ⟨_, _, _, _⟩, ⟨_, _, _, _⟩, ⟨_, _, _, _⟩, ⟨_, _, _, _⟩, ⟨_, _, _, _⟩, ⟨_, _, _, _⟩, ⟨_, _, _, _⟩, ⟨_, _, _, _⟩, ⟨_, _, _, _⟩, ⟨_, _, _, _⟩, ⟨_, _, _, _⟩, ⟨_, _, _, _⟩, ⟨_, _, _, _⟩, ⟨_, _, _, _⟩]) rfl rfl ?_
            refine TrL.new (ok_bsl (eL eI) 120 (fun hp => .cons rfl <| .nil) rfl rfl rfl rfl) rfl rfl rfl rfl ?_
            refine TrL.app rfl rfl rfl rfl rfl rfl rfl rfl (by first | omega | (simp only [List.length_cons, List.length_nil]; omega)) (by first | omega | (simp only [List.length_cons, List.length_nil]; omega)) ?_
            refine TrL.norm (S' := [⟨_, _, _, _⟩, ⟨_, _, _, _⟩, ⟨_, _, _, _⟩, ⟨_, _, _, _⟩, ⟨_, _, _, _⟩, ⟨_, _, _, _⟩, ⟨_, _, _, _⟩, ⟨_, _, _, _⟩, ⟨_, _, _, _⟩, ⟨_, _, _, _⟩, ⟨_, _, _, _⟩, ⟨_, _, _, _⟩, ⟨_, _, _, _⟩, ⟨_, _, _, _⟩, ⟨_, _, _, _⟩, ⟨_, _, _, _⟩, ⟨_, _, _, _⟩, ⟨_, _, _, _⟩, ⟨_, _, _, _⟩]) rfl rfl ?_
            refine TrL.op (ok_assign rfl (fun _ => rfl)) rfl rfl ?_
            refine TrL.fin ?_
            refine End.blk ?_
            refine End.nxt ?_
            refine Tr.rg ?_
            refine TrL.op (ok_add rfl (fun _ => rfl) rfl (fun _ => rfl) (fun _ => by omega)) rfl rfl ?_
            refine TrL.op (ok_move rfl (fun _ => rfl)) rfl rfl ?_
            refine TrL.fin ?_
            exact End.lp (m + 1) (by first | rfl | omega | (simp; done) | (simp; omega) | assumption) (by omega) (Ent.mk (.i rfl (by first | rfl | omega | (simp; done) | (simp; omega) | assumption) <| .o rfl (by first | rfl | omega | (simp; done) | (simp; omega) | assumption) rfl <| .k rfl rfl <| .k rfl rfl <| .k rfl rfl <| .k rfl rfl <| .k rfl rfl <| .k rfl rfl <| .k rfl rfl <| .nil) (.a (by exact tab_succ.symm) (by first | rfl | omega | (simp; done) | (simp; omega) | assumption) <| .k rfl <| .k rfl <| .nil) rfl)
        · intro h8
          replace h8 := Int.not_lt.1 (of_decide_eq_false h8)
          refine Tr.exit ?_
          refine Exs.thn ?_
          refine Exs.thn ?_
          refine Exs.here ?_
          exact End.cut (m) (by omega) (Ent.mk (.i rfl (by first | rfl | omega | (simp; done) | (simp; omega) | assumption) <| .o rfl (by first | rfl | omega | (simp; done) | (simp; omega) | assumption) rfl <| .k rfl rfl <| .k rfl rfl <| .k rfl rfl <| .k rfl rfl <| .k rfl rfl <| .k rfl rfl <| .k rfl rfl <| .nil) (.a (by first | rfl | omega | (simp; done) | (simp; omega) | assumption) (by first | rfl | omega | (simp; done) | (simp; omega) | assumption) <| .k rfl <| .k rfl <| .nil) rfl)
      · rintro _ rfl
        refine End.norm (S' := [⟨36, true, _, _⟩, ⟨11, true, _, _⟩, ⟨0, true, _, _⟩, ⟨1, true, _, _⟩, ⟨8, true, _, _⟩, ⟨9, true, _, _⟩, ⟨10, true, _, _⟩, ⟨34, true, _, _⟩, ⟨35, true, _, _⟩]) (M' := [⟨11, _, _⟩, ⟨20, _, _⟩, ⟨10, _, _⟩]) rfl rfl ?_
        refine End.nxt ?_
        refine Tr.seq ?_
        refine Tr.rg ?_
        refine TrL.op (ok_move rfl (fun _ => rfl)) rfl rfl ?_
        refine TrL.frz 11 [11, 123] ⟨rfl, rfl, trivial⟩ (by simp only [lenMax]; omega) rfl ?_
        refine TrL.norm (S' := [⟨_, _, _, _⟩, ⟨_, _, _, _⟩, ⟨_, _, _, _⟩, ⟨_, _, _, _⟩, ⟨_, _, _, _⟩, ⟨_, _, _, _⟩, ⟨_, _, _, _⟩, ⟨_, _, _, _⟩, ⟨_, _, _, _⟩, ⟨_, _, _, _⟩, ⟨_, _, _, _⟩, ⟨_, _, _, _⟩]) rfl rfl ?_
        refine TrL.op (ok_assign rfl (fun _ => rfl)) rfl rfl ?_
        refine TrL.fin ?_
        refine End.nxt ?_
        refine Tr.rg ?_
        refine TrL.op (ok_fldO rfl (fun _ => rfl)) rfl rfl ?_
        refine TrL.op (ok_ldB rfl (fun _ => rfl) rfl) rfl rfl ?_
        refine TrL.op (ok_move rfl (fun _ => rfl)) rfl rfl ?_
        refine TrL.op (ok_callV rfl (fun _ => rfl) (fun hp => ct_lfO hx v2) (.a rfl (fun _ => rfl) <| .nil)) rfl rfl ?_
        refine TrL.op (ok_call (fun hp => ct_open _) (.a rfl (fun _ => rfl) <| .nil)) rfl rfl ?_
        refine TrL.op (ok_move rfl (fun _ => rfl)) rfl rfl ?_
        refine TrL.op (ok_ext rfl (fun _ => rfl) rfl) rfl rfl ?_
        refine TrL.op (ok_ext rfl (fun _ => rfl) rfl) rfl rfl ?_
        refine TrL.op (ok_assign rfl (fun _ => rfl)) rfl rfl ?_
        refine TrL.fin ?_
        refine End.blk ?_
        refine End.nxt ?_
        refine Tr.rg ?_
        refine TrL.op (ok_move rfl (fun _ => rfl)) rfl rfl ?_
        refine TrL.op (ok_sub rfl (fun _ => rfl) rfl (fun _ => rfl) (fun _ => by omega)) rfl rfl ?_
        refine TrL.op (ok_assign rfl (fun _ => rfl)) rfl rfl ?_
        refine TrL.fin ?_
        have hv4 := letO_valid v2 (nth (bs s) (j - 1))
        have hdr := drop_cons (ws := bs s) (i := j) (by omega) (by omega)
        exact End.lp (j - 1) (by first | rfl | omega | (simp; done) | (simp; omega) | assumption) (by omega) (Ent.mk (.conv rfl rfl (fun g v h => (by (rw [hdr]; exact ifT_imp (decide_eq_true (chkO_of hv4.1)) g v h))) rfl <| .r rfl (by rw [hdr, ← pushL_eq]) <| .i rfl (by first | rfl | omega | (simp; done) | (simp; omega) | assumption) <| .k rfl rfl <| .k rfl rfl <| .nil) (.k rfl <| .nil) rfl)
    · intro h3
      replace h3 := Int.not_le.1 (of_decide_eq_false h3)
      refine Tr.exit ?_
      refine Exs.thn ?_
      refine Exs.thn ?_
      refine Exs.here ?_
      exact End.cut (j) (by omega) (Ent.mk (.k rfl rfl <| .r rfl (by first | rfl | omega | (simp; done) | (simp; omega) | assumption) <| .i rfl (by first | rfl | omega | (simp; done) | (simp; omega) | assumption) <| .k rfl rfl <| .k rfl rfl <| .nil) (.k rfl <| .nil) rfl)
  · rintro _ rfl
    refine End.norm (S' := [⟨0, true, _, _⟩, ⟨2, true, _, _⟩, ⟨9, true, _, _⟩, ⟨1, true, _, _⟩, ⟨8, true, _, _⟩]) (M' := [⟨20, _, _⟩]) rfl rfl ?_
    refine End.nxt ?_
    refine Tr.seq ?_
    refine Tr.rg ?_
    refine TrL.op (ok_move rfl (fun _ => rfl)) rfl rfl ?_
    refine TrL.op (ok_move rfl (fun _ => rfl)) rfl rfl ?_
    refine TrL.op (ok_assign rfl (fun _ => rfl)) rfl rfl ?_
    refine TrL.op (ok_assign rfl (fun _ => rfl)) rfl rfl ?_
    refine TrL.fin ?_
    refine End.nxt ?_
    refine Tr.ret ?_
    exact Rts.res (fn := Tryd.f44) (ts := [6, 7]) rfl rfl (.p rfl (by first | rfl | omega | (simp; done) | (simp; omega) | assumption) <| .r rfl (by first | rfl | omega | (simp; done) | (simp; omega) | assumption) <| .nil)

set_option maxRecDepth 100000 in
theorem ct_hPush (o : Ori) (s : ByteArray) (c : List Int) (hs : s.size ≤ 1000000) : Ct Tryd.prog 13 [kRd eO o, kS s, kRd (eL eI) c] (kTup [kRd eO (if orE (chkO o) (orE (chkC o.1.length c) (chkW (bs s))) = 0 then pO (bs s) o else ([], [])), kRd (eL eI) (if orE (chkO o) (orE (chkC o.1.length c) (chkW (bs s))) = 0 then pC (bs s) o c else []), kI (orE (chkO o) (orE (chkC o.1.length c) (chkW (bs s))))]) := by
  refine Ct.mk Tryd.func13 rfl Tryd.ntmps13 rfl (fun w J => ?_)
  refine Tr.seq ?_
  refine Tr.rg ?_
  refine TrL.new (ok_box 3 rfl (fun _ => rfl) rfl) rfl rfl rfl rfl ?_
  refine TrL.new (ok_alloc 6) rfl rfl rfl rfl ?_
  refine TrL.op (ok_assign rfl (fun _ => rfl)) rfl rfl ?_
  refine TrL.op (ok_assign rfl (fun _ => rfl)) rfl rfl ?_
  refine TrL.fin ?_
  refine End.nxt ?_
  refine Tr.seq ?_
  refine Tr.rg ?_
  refine TrL.op (ok_ldBS rfl (fun _ => rfl)) rfl rfl ?_
  refine TrL.op (ok_call (fun hp => ct_open _) (.s rfl (fun _ => rfl) rfl <| .nil)) rfl rfl ?_
  refine TrL.op (ok_move rfl (fun _ => rfl)) rfl rfl ?_
  refine TrL.op (ok_ext rfl (fun _ => rfl) rfl) rfl rfl ?_
  refine TrL.op (ok_ext rfl (fun _ => rfl) rfl) rfl rfl ?_
  refine TrL.op (ok_assign rfl (fun _ => rfl)) rfl rfl ?_
  refine TrL.op (ok_assign rfl (fun _ => rfl)) rfl rfl ?_
  refine TrL.fin ?_
  refine End.nxt ?_
  refine Tr.seq ?_
  refine Tr.seq ?_
  refine Tr.rg ?_
  refine TrL.op (ok_move rfl (fun _ => rfl)) rfl rfl ?_
  refine TrL.op (ok_neq rfl (fun _ => rfl) rfl (fun _ => rfl)) rfl rfl ?_
  refine TrL.fin ?_
  refine End.nxt ?_
  refine Tr.cnd rfl ?_ ?_
  · intro h2
    replace h2 := of_decide_eq_true h2
    refine Tr.seq ?_
    refine Tr.rg ?_
    refine TrL.op (ok_build (fun hp => .nil)) rfl rfl ?_
    refine TrL.op (ok_move rfl (fun _ => rfl)) rfl rfl ?_
    refine TrL.stB rfl rfl rfl rfl ?_
    refine TrL.op (ok_assign rfl (fun _ => rfl)) rfl rfl ?_
    refine TrL.op (ok_assign rfl (fun _ => rfl)) rfl rfl ?_
    refine TrL.fin ?_
    refine End.nxt ?_
    refine Tr.ret ?_
    refine Rts.thn ?_
    exact Rts.resC (fn := Tryd.f13) (ts := [7, 8]) rfl rfl rfl (aggRd rfl (by rw [orE_l h2, if_neg h2])) (.n rfl (by rw [orE_l h2, if_neg h2]) <| .i rfl (by rw [orE_l h2]) <| .nil)
  · intro h2
    replace h2 := Classical.not_not.1 (of_decide_eq_false h2)
    have v : Valid o := valid_of h2
    have hv2 := v.le
    refine Tr.ifT (s := 9) rfl (decide_eq_true h2) rfl ?_
    refine Tr.skip ?_
    refine End.nxt ?_
    refine Tr.seq ?_
    refine Tr.seq ?_
    refine Tr.rg ?_
    refine TrL.op (ok_move rfl (fun _ => rfl)) rfl rfl ?_
    refine TrL.op (ok_move rfl (fun _ => rfl)) rfl rfl ?_
    refine TrL.op (ok_call (fun hp => ct_checkChain _ v _) (.a rfl (fun _ => rfl) <| .a rfl (fun _ => rfl) <| .nil)) rfl rfl ?_
    refine TrL.op (ok_assign rfl (fun _ => rfl)) rfl rfl ?_
    refine TrL.fin ?_
    refine End.nxt ?_
    refine Tr.seq ?_
    refine Tr.rg ?_
    refine TrL.op (ok_move rfl (fun _ => rfl)) rfl rfl ?_
    refine TrL.op (ok_neq rfl (fun _ => rfl) rfl (fun _ => rfl)) rfl rfl ?_
    refine TrL.fin ?_
    refine End.nxt ?_
    refine Tr.cnd rfl ?_ ?_
    · intro h5
      replace h5 := of_decide_eq_true h5
      refine Tr.seq ?_
      refine Tr.rg ?_
      refine TrL.op (ok_build (fun hp => .nil)) rfl rfl ?_
      refine TrL.op (ok_move rfl (fun _ => rfl)) rfl rfl ?_
      refine TrL.stB rfl rfl rfl rfl ?_
      refine TrL.op (ok_assign rfl (fun _ => rfl)) rfl rfl ?_
      refine TrL.op (ok_assign rfl (fun _ => rfl)) rfl rfl ?_
      refine TrL.fin ?_
      refine End.nxt ?_
      refine Tr.ret ?_
      refine Rts.thn ?_
      exact Rts.resC (fn := Tryd.f13) (ts := [7, 8]) rfl rfl rfl (aggRd rfl (by rw [orE_r h2, orE_l h5, if_neg h5])) (.n rfl (by rw [orE_r h2, orE_l h5, if_neg h5]) <| .i rfl (by rw [orE_r h2, orE_l h5]) <| .nil)
    · intro h5
      replace h5 := Classical.not_not.1 (of_decide_eq_false h5)
      have hcl := chkC_len h5
      refine Tr.skip ?_
      refine End.nxt ?_
      refine Tr.seq ?_
      refine Tr.seq ?_
      refine Tr.rg ?_
      refine TrL.op (ok_move rfl (fun _ => rfl)) rfl rfl ?_
      refine TrL.op (ok_call (fun hp => ct_checkWord _ hs) (.a rfl (fun _ => rfl) <| .nil)) rfl rfl ?_
      refine TrL.op (ok_assign rfl (fun _ => rfl)) rfl rfl ?_
      refine TrL.fin ?_
      refine End.nxt ?_
      refine Tr.seq ?_
      refine Tr.rg ?_
      refine TrL.op (ok_move rfl (fun _ => rfl)) rfl rfl ?_
      refine TrL.op (ok_neq rfl (fun _ => rfl) rfl (fun _ => rfl)) rfl rfl ?_
      refine TrL.fin ?_
      refine End.nxt ?_
      refine Tr.cnd rfl ?_ ?_
      · intro h8
        replace h8 := of_decide_eq_true h8
        refine Tr.seq ?_
        refine Tr.rg ?_
        refine TrL.op (ok_build (fun hp => .nil)) rfl rfl ?_
        refine TrL.op (ok_move rfl (fun _ => rfl)) rfl rfl ?_
        refine TrL.stB rfl rfl rfl rfl ?_
        refine TrL.op (ok_assign rfl (fun _ => rfl)) rfl rfl ?_
        refine TrL.op (ok_assign rfl (fun _ => rfl)) rfl rfl ?_
        refine TrL.fin ?_
        refine End.nxt ?_
        refine Tr.ret ?_
        refine Rts.thn ?_
        exact Rts.resC (fn := Tryd.f13) (ts := [7, 8]) rfl rfl rfl (aggRd rfl (by rw [orE_r h2, orE_r h5, if_neg h8])) (.n rfl (by rw [orE_r h2, orE_r h5, if_neg h8]) <| .i rfl (by rw [orE_r h2, orE_r h5]) <| .nil)
      · intro h8
        replace h8 := Classical.not_not.1 (of_decide_eq_false h8)
        have hw := chkW_zero h8
        refine Tr.skip ?_
        refine End.nxt ?_
        refine Tr.seq ?_
        refine Tr.rg ?_
        refine TrL.op (ok_move rfl (fun _ => rfl)) rfl rfl ?_
        refine TrL.op (ok_move rfl (fun _ => rfl)) rfl rfl ?_
        refine TrL.op (ok_move rfl (fun _ => rfl)) rfl rfl ?_
        refine TrL.op (ok_call (fun hp => ct_cloneI _ (by omega)) (.a rfl (fun _ => rfl) <| .nil)) rfl rfl ?_
        refine TrL.op (ok_bslJ (eL eI) (fun hp => .cons rfl <| .nil) rfl rfl rfl rfl) rfl rfl ?_
        refine TrL.op (ok_call (fun hp => ct_push _ _ _ v hw.2 hw.1 (fun i hi => by (rcases i with _ | i; exact hcl; simp at hi)) (by simp)) (.a rfl (fun _ => rfl) <| .a rfl (fun _ => rfl) <| .a rfl (fun _ => rfl) <| .nil)) rfl rfl ?_
        refine TrL.op (ok_move rfl (fun _ => rfl)) rfl rfl ?_
        refine TrL.op (ok_ext rfl (fun _ => rfl) rfl) rfl rfl ?_
        refine TrL.op (ok_ext rfl (fun _ => rfl) rfl) rfl rfl ?_
        refine TrL.op (ok_assign rfl (fun _ => rfl)) rfl rfl ?_
        refine TrL.op (ok_assign rfl (fun _ => rfl)) rfl rfl ?_
        refine TrL.fin ?_
        refine End.nxt ?_
        refine Tr.seq ?_
        refine Tr.drawS 12 6 mixed (by kernel_rfl) ?_
        have h1l : ([c].map (pC (bs s) o)).length = 1 := by simp
        refine RunS.opA (ok_move rfl (fun _ => rfl)) (by kernel_rfl) rfl rfl ?_
        refine RunS.opA (ok_nilP rfl (fun _ => rfl)) (by kernel_rfl) rfl rfl ?_
        refine RunS.opA (ok_fldP rfl (fun _ => rfl) rfl) (by kernel_rfl) rfl rfl ?_
        refine RunS.opA (ok_ldP rfl (fun _ => rfl) rfl) (by kernel_rfl) rfl rfl ?_
        refine RunS.opA (ok_move rfl (fun _ => rfl)) (by kernel_rfl) rfl rfl ?_
        refine RunS.opA (ok_nilP rfl (fun _ => rfl)) (by kernel_rfl) rfl rfl ?_
        refine RunS.opA (ok_fldP rfl (fun _ => rfl) rfl) (by kernel_rfl) rfl rfl ?_
        refine RunS.opA (ok_ldP rfl (fun _ => rfl) rfl) (by kernel_rfl) rfl rfl ?_
        refine RunS.opA (ok_build (fun hp => .cons rfl rfl rfl <| .cons rfl rfl rfl <| .nil)) (by kernel_rfl) rfl rfl ?_
        refine RunS.op (ok_move rfl (fun _ => rfl)) rfl rfl ?_
        first | refine RunS.op (ok_idxN rfl (fun _ => rfl) rfl (fun _ => rfl) rfl (fun _ => by omega)) rfl rfl ?_ | refine RunS.op (ok_idxP rfl (fun _ => rfl) rfl (fun _ => rfl) rfl (fun _ => by omega)) rfl rfl ?_
        refine RunS.op (ok_ldP rfl (fun _ => rfl) rfl) rfl rfl ?_
        refine RunS.z (st_B rfl rfl rfl) rfl rfl rfl ?_
        refine TrL.op (ok_assign rfl (fun _ => rfl)) rfl rfl ?_
        refine TrL.op (ok_assign rfl (fun _ => rfl)) rfl rfl ?_
        refine TrL.fin ?_
        refine End.nxt ?_
        refine Tr.ret ?_
        exact Rts.resC (fn := Tryd.f13) (ts := [7, 8]) rfl rfl rfl (aggRd rfl (by rw [orE_r h2, orE_r h5, if_pos h8])) (.r rfl (by rw [orE_r h2, orE_r h5, if_pos h8]; rfl) <| .i rfl (by rw [orE_r h2, orE_r h5, h8]) <| .nil)

end Go.Fl

/- Contracts of the laws of chapter 8. -/
namespace Go.Fl
open Go Go.Proofs


def smallB (o : Ori) : Bool := decide (o.1.length ≤ 70 ∧ o.2.length ≤ 70 ∧ (o.1.length ≤ 6 ∨ chkO o ≠ 0))
theorem smallB_iff {o : Ori} : smallB o = true ↔ o.1.length ≤ 70 ∧ o.2.length ≤ 70 ∧ (o.1.length ≤ 6 ∨ chkO o ≠ 0) := by unfold smallB; exact decide_eq_true_iff


theorem len2 {a c : List Int} {m : Nat} (ha : a.length = m) (hc : c.length = m) : ∀ i, i < [a, c].length → (nth [a, c] i).length = m := fun i hi => by
  rcases i with _ | _ | i
  · exact ha
  · exact hc
  · exact absurd hi (by simp)
theorem chk2 {o : Ori} {a c : List Int} : chkZs o [a, c] = orE (chkZ o a) (chkZ o c) := by
  unfold chkZs
  rw [if_neg (by simp)]
  show orE (chkZ o a) (orE (chkZ o c) 0) = _
  congr 1
  by_cases h : chkZ o c = 0
  · rw [orE_r h, h]
  · rw [orE_l h]

set_option maxRecDepth 100000 in
theorem ct_torus  : Ct Tryd.prog 40 [] (kRd eO ([0], [0])) := by
  refine Ct.mk Tryd.func40 rfl Tryd.ntmps40 rfl (fun w J => ?_)
  refine Tr.seq ?_
  refine Tr.rg ?_
  refine TrL.new (ok_alloc 0) rfl rfl rfl rfl ?_
  refine TrL.fin ?_
  refine End.nxt ?_
  refine Tr.seq ?_
  refine Tr.rg ?_
  refine TrL.op (ok_bslJ eI (fun hp => .cons rfl <| .nil) rfl rfl rfl rfl) rfl rfl ?_
  refine TrL.op (ok_bslJ eI (fun hp => .cons rfl <| .nil) rfl rfl rfl rfl) rfl rfl ?_
  refine TrL.op (ok_build (fun hp => .cons rfl rfl rfl <| .cons rfl rfl rfl <| .nil)) rfl rfl ?_
  refine TrL.stB rfl rfl rfl rfl ?_
  refine TrL.fin ?_
  refine End.nxt ?_
  refine Tr.ret ?_
  exact Rts.resC1 (fn := Tryd.f40) rfl rfl (aggRd rfl (by first | rfl | omega | (simp; done) | (simp; omega) | assumption))

set_option maxRecDepth 100000 in
theorem ct_awake  : Ct Tryd.prog 9 [] (kB true) := by
  refine Ct.mk Tryd.func9 rfl Tryd.ntmps9 rfl (fun w J => ?_)
  refine Tr.seq ?_
  refine Tr.rg ?_
  refine TrL.op (ok_assign rfl (fun _ => rfl)) rfl rfl ?_
  refine TrL.fin ?_
  refine End.nxt ?_
  refine Tr.seq ?_
  refine Tr.rg ?_
  refine TrL.op (ok_call (fun hp => ct_torus) (.nil)) rfl rfl ?_
  refine TrL.op (ok_bslJ eI (fun hp => .cons rfl <| .cons rfl <| .nil) rfl rfl rfl rfl) rfl rfl ?_
  refine TrL.op (ok_bslJ eI (fun hp => .cons rfl <| .cons rfl <| .nil) rfl rfl rfl rfl) rfl rfl ?_
  refine TrL.op (ok_call (fun hp => ct_hIntersect _ _ _) (.a rfl (fun _ => rfl) <| .a rfl (fun _ => rfl) <| .a rfl (fun _ => rfl) <| .nil)) rfl rfl ?_
  refine TrL.op (ok_move rfl (fun _ => rfl)) rfl rfl ?_
  refine TrL.op (ok_ext rfl (fun _ => rfl) rfl) rfl rfl ?_
  refine TrL.op (ok_ext rfl (fun _ => rfl) rfl) rfl rfl ?_
  refine TrL.op (ok_assign rfl (fun _ => rfl)) rfl rfl ?_
  refine TrL.op (ok_assign rfl (fun _ => rfl)) rfl rfl ?_
  refine TrL.fin ?_
  refine End.nxt ?_
  refine Tr.seq ?_
  refine Tr.rg ?_
  refine TrL.op (ok_call (fun hp => ct_torus) (.nil)) rfl rfl ?_
  refine TrL.op (ok_bslJ eI (fun hp => .cons rfl <| .cons rfl <| .nil) rfl rfl rfl rfl) rfl rfl ?_
  refine TrL.op (ok_call (fun hp => ct_hPush _ _ _ (by decide)) (.a rfl (fun _ => rfl) <| .a rfl (fun _ => rfl) <| .a rfl (fun _ => rfl) <| .nil)) rfl rfl ?_
  refine TrL.op (ok_move rfl (fun _ => rfl)) rfl rfl ?_
  refine TrL.op (ok_ext rfl (fun _ => rfl) rfl) rfl rfl ?_
  refine TrL.op (ok_ext rfl (fun _ => rfl) rfl) rfl rfl ?_
  refine TrL.op (ok_ext rfl (fun _ => rfl) rfl) rfl rfl ?_
  refine TrL.new (ok_alloc 3) rfl rfl rfl rfl ?_
  refine TrL.stB rfl rfl rfl rfl ?_
  refine TrL.op (ok_assign rfl (fun _ => rfl)) rfl rfl ?_
  refine TrL.op (ok_assign rfl (fun _ => rfl)) rfl rfl ?_
  refine TrL.fin ?_
  refine End.nxt ?_
  refine Tr.seq ?_
  refine Tr.rg ?_
  refine TrL.op (ok_move rfl (fun _ => rfl)) rfl rfl ?_
  refine TrL.op (ok_eql rfl (fun _ => rfl) rfl (fun _ => rfl)) rfl rfl ?_
  refine TrL.op (ok_move rfl (fun _ => rfl)) rfl rfl ?_
  refine TrL.gd rfl rfl rfl (ok_move rfl (fun _ => rfl)) rfl rfl ?_
  refine TrL.gd rfl rfl rfl (ok_eql rfl id rfl (fun _ => rfl)) rfl rfl ?_
  refine TrL.op (ok_and rfl (fun _ => rfl) rfl (fun hp h => gdT2 ((fun _ => rfl) hp) h)) rfl rfl ?_
  refine TrL.op (ok_move rfl (fun _ => rfl)) rfl rfl ?_
  refine TrL.gd rfl rfl rfl (ok_move rfl (fun _ => rfl)) rfl rfl ?_
  refine TrL.gd rfl rfl rfl (ok_eql rfl id rfl (fun _ => rfl)) rfl rfl ?_
  refine TrL.op (ok_and rfl (fun _ => rfl) rfl (fun hp h => gdT2 ((fun _ => rfl) hp) h)) rfl rfl ?_
  refine TrL.op (ok_move rfl (fun _ => rfl)) rfl rfl ?_
  refine TrL.gd rfl rfl rfl (ok_move rfl (fun _ => rfl)) rfl rfl ?_
  refine TrL.gd rfl rfl rfl (ok_bslJ eI (fun hp => .cons rfl <| .cons rfl <| .nil) rfl rfl rfl rfl) rfl rfl ?_
  refine TrL.gd rfl rfl rfl (ok_call (fun hp => ct_Ints _ _) (.a rfl id <| .a rfl id <| .nil)) rfl rfl ?_
  refine TrL.op (ok_and rfl (fun _ => rfl) rfl (fun hp h => gdT2 ((fun _ => rfl) hp) h)) rfl rfl ?_
  refine TrL.op (ok_assign rfl (fun _ => rfl)) rfl rfl ?_
  refine TrL.fin ?_
  refine End.nxt ?_
  refine Tr.ret ?_
  exact Rts.res1 (fn := Tryd.f9) rfl (.b rfl (by decide +kernel) <| .nil)

set_option maxRecDepth 100000 in
theorem ct_short (c : List Int) : Ct Tryd.prog 11 [kRd (eL eI) c] (kB (decide (c.length ≤ 20))) := by
  refine Ct.mk Tryd.func11 rfl Tryd.ntmps11 rfl (fun w J => ?_)
  refine Tr.seq ?_
  refine Tr.rg ?_
  refine TrL.op (ok_assign rfl (fun _ => rfl)) rfl rfl ?_
  refine TrL.fin ?_
  refine End.nxt ?_
  refine Tr.seq ?_
  refine Tr.rg ?_
  refine TrL.op (ok_move rfl (fun _ => rfl)) rfl rfl ?_
  refine TrL.op (ok_lenJ rfl (fun _ => rfl)) rfl rfl ?_
  refine TrL.op (ok_leq rfl (fun _ => rfl) rfl (fun _ => rfl)) rfl rfl ?_
  refine TrL.op (ok_assign rfl (fun _ => rfl)) rfl rfl ?_
  refine TrL.fin ?_
  refine End.nxt ?_
  refine Tr.ret ?_
  exact Rts.res1 (fn := Tryd.f11) rfl (.b rfl (decide_eq_decide.2 (by omega)) <| .nil)

set_option maxRecDepth 100000 in
theorem ct_Small (o : Ori) : Ct Tryd.prog 10 [kRd eO o] (kB (smallB o)) := by
  refine Ct.mk Tryd.func10 rfl Tryd.ntmps10 rfl (fun w J => ?_)
  refine Tr.seq ?_
  refine Tr.rg ?_
  refine TrL.new (ok_box 1 rfl (fun _ => rfl) rfl) rfl rfl rfl rfl ?_
  refine TrL.op (ok_assign rfl (fun _ => rfl)) rfl rfl ?_
  refine TrL.fin ?_
  refine End.nxt ?_
  refine Tr.seq ?_
  refine Tr.rg ?_
  refine TrL.op (ok_fldO rfl (fun _ => rfl)) rfl rfl ?_
  refine TrL.op (ok_ldB rfl (fun _ => rfl) rfl) rfl rfl ?_
  refine TrL.op (ok_lenJ rfl (fun _ => rfl)) rfl rfl ?_
  refine TrL.op (ok_leq rfl (fun _ => rfl) rfl (fun _ => rfl)) rfl rfl ?_
  refine TrL.op (ok_move rfl (fun _ => rfl)) rfl rfl ?_
  refine TrL.gd rfl rfl rfl (ok_fldO rfl (fun _ => rfl)) rfl rfl ?_
  refine TrL.gd rfl rfl rfl (ok_ldB rfl id rfl) rfl rfl ?_
  refine TrL.gd rfl rfl rfl (ok_lenJ rfl id) rfl rfl ?_
  refine TrL.gd rfl rfl rfl (ok_leq rfl id rfl (fun _ => rfl)) rfl rfl ?_
  refine TrL.op (ok_and rfl (fun _ => rfl) rfl (fun hp h => gdT2 ((fun _ => rfl) hp) h)) rfl rfl ?_
  refine TrL.op (ok_move rfl (fun _ => rfl)) rfl rfl ?_
  refine TrL.gd rfl rfl rfl (ok_fldO rfl (fun _ => rfl)) rfl rfl ?_
  refine TrL.gd rfl rfl rfl (ok_ldB rfl id rfl) rfl rfl ?_
  refine TrL.gd rfl rfl rfl (ok_lenJ rfl id) rfl rfl ?_
  refine TrL.gd rfl rfl rfl (ok_leq rfl id rfl (fun _ => rfl)) rfl rfl ?_
  refine TrL.gd rfl rfl rfl (ok_move rfl id) rfl rfl ?_
  refine TrL.gd rfl rfl rfl (ok_ldBS rfl (fun _ => rfl)) rfl rfl ?_
  refine TrL.gd rfl rfl rfl (ok_call (fun hp => ct_rCheck _) (.s rfl id rfl <| .nil)) rfl rfl ?_
  refine TrL.gd rfl rfl rfl (ok_neq rfl id rfl (fun _ => rfl)) rfl rfl ?_
  refine TrL.gd rfl rfl rfl (ok_or rfl id rfl (fun hp h => gdF2 (id hp) h)) rfl rfl ?_
  refine TrL.op (ok_and rfl (fun _ => rfl) rfl (fun hp h => gdT2 ((fun _ => rfl) hp) h)) rfl rfl ?_
  refine TrL.op (ok_assign rfl (fun _ => rfl)) rfl rfl ?_
  refine TrL.fin ?_
  refine End.nxt ?_
  refine Tr.ret ?_
  exact Rts.res1 (fn := Tryd.f10) rfl (.b rfl (by unfold smallB; rw [Bool.eq_iff_iff]; simp; try omega) <| .nil)

set_option maxRecDepth 100000 in
theorem ct_lcycles (o : Ori) (l : List (List Int)) : Ct Tryd.prog 22 [kRd eO o, kRd (eL (eL eI)) l] (kI (orE (chkO o) (chkZs o l))) := by
  refine Ct.mk Tryd.func22 rfl Tryd.ntmps22 rfl (fun w J => ?_)
  refine Tr.seq ?_
  refine Tr.rg ?_
  refine TrL.new (ok_box 2 rfl (fun _ => rfl) rfl) rfl rfl rfl rfl ?_
  refine TrL.op (ok_assign rfl (fun _ => rfl)) rfl rfl ?_
  refine TrL.fin ?_
  refine End.nxt ?_
  refine Tr.seq ?_
  refine Tr.seq ?_
  refine Tr.rg ?_
  refine TrL.op (ok_ldBS rfl (fun _ => rfl)) rfl rfl ?_
  refine TrL.op (ok_call (fun hp => ct_rCheck _) (.s rfl (fun _ => rfl) rfl <| .nil)) rfl rfl ?_
  refine TrL.op (ok_assign rfl (fun _ => rfl)) rfl rfl ?_
  refine TrL.fin ?_
  refine End.nxt ?_
  refine Tr.seq ?_
  refine Tr.rg ?_
  refine TrL.op (ok_move rfl (fun _ => rfl)) rfl rfl ?_
  refine TrL.op (ok_neq rfl (fun _ => rfl) rfl (fun _ => rfl)) rfl rfl ?_
  refine TrL.fin ?_
  refine End.nxt ?_
  refine Tr.cnd rfl ?_ ?_
  · intro h2
    replace h2 := of_decide_eq_true h2
    refine Tr.seq ?_
    refine Tr.rg ?_
    refine TrL.op (ok_move rfl (fun _ => rfl)) rfl rfl ?_
    refine TrL.op (ok_assign rfl (fun _ => rfl)) rfl rfl ?_
    refine TrL.fin ?_
    refine End.nxt ?_
    refine Tr.ret ?_
    refine Rts.thn ?_
    exact Rts.res1 (fn := Tryd.f22) rfl (.i rfl (orE_l h2).symm <| .nil)
  · intro h2
    replace h2 := Classical.not_not.1 (of_decide_eq_false h2)
    have v : Valid o := valid_of h2
    refine Tr.skip ?_
    refine End.nxt ?_
    refine Tr.seq ?_
    refine Tr.rg ?_
    refine TrL.op (ok_ldBS rfl (fun _ => rfl)) rfl rfl ?_
    refine TrL.op (ok_call (fun hp => ct_rOpen _ v) (.s rfl (fun _ => rfl) rfl <| .nil)) rfl rfl ?_
    refine TrL.op (ok_move rfl (fun _ => rfl)) rfl rfl ?_
    refine TrL.op (ok_call (fun hp => ct_rCheckCycles _ _ v) (.a rfl (fun _ => rfl) <| .a rfl (fun _ => rfl) <| .nil)) rfl rfl ?_
    refine TrL.op (ok_assign rfl (fun _ => rfl)) rfl rfl ?_
    refine TrL.fin ?_
    refine End.nxt ?_
    refine Tr.ret ?_
    exact Rts.res1 (fn := Tryd.f22) rfl (.i rfl (orE_r h2).symm <| .nil)

set_option maxRecDepth 100000 in
theorem ct_HomologyBoundaries (o : Ori) (c : List Int) : Ct Tryd.prog 5 [kRd eO o, kRd (eL eI) c] (kB true) := by
  refine Ct.mk Tryd.func5 rfl Tryd.ntmps5 rfl (fun w J => ?_)
  refine Tr.seq ?_
  refine Tr.rg ?_
  refine TrL.new (ok_box 2 rfl (fun _ => rfl) rfl) rfl rfl rfl rfl ?_
  refine TrL.op (ok_assign rfl (fun _ => rfl)) rfl rfl ?_
  refine TrL.fin ?_
  refine End.nxt ?_
  refine Tr.seq ?_
  refine Tr.seq ?_
  refine Tr.rg ?_
  refine TrL.op (ok_call (fun hp => ct_awake) (.nil)) rfl rfl ?_
  refine TrL.op (ok_not rfl (fun _ => rfl)) rfl rfl ?_
  refine TrL.fin ?_
  refine End.nxt ?_
  refine Tr.cnd rfl ?_ ?_
  · intro h1
    simp at h1
  · intro h1
    refine Tr.skip ?_
    refine End.nxt ?_
    refine Tr.seq ?_
    refine Tr.seq ?_
    refine Tr.rg ?_
    refine TrL.op (ok_ldBS rfl (fun _ => rfl)) rfl rfl ?_
    refine TrL.op (ok_call (fun hp => ct_Small _) (.s rfl (fun _ => rfl) rfl <| .nil)) rfl rfl ?_
    refine TrL.op (ok_not rfl (fun _ => rfl)) rfl rfl ?_
    refine TrL.op (ok_move rfl (fun _ => rfl)) rfl rfl ?_
    refine TrL.gd rfl rfl rfl (ok_move rfl (fun _ => rfl)) rfl rfl ?_
    refine TrL.gd rfl rfl rfl (ok_call (fun hp => ct_short _) (.a rfl id <| .nil)) rfl rfl ?_
    refine TrL.gd rfl rfl rfl (ok_not rfl id) rfl rfl ?_
    refine TrL.op (ok_or rfl (fun _ => rfl) rfl (fun hp h => gdF2 ((fun _ => rfl) hp) h)) rfl rfl ?_
    refine TrL.fin ?_
    refine End.nxt ?_
    refine Tr.cnd rfl ?_ ?_
    · intro h3
      try simp only [decide_eq_false_iff_not, Bool.or_eq_true, Bool.not_eq_true', Nat.not_le] at h3
      refine Tr.seq ?_
      refine Tr.rg ?_
      refine TrL.op (ok_assign rfl (fun _ => rfl)) rfl rfl ?_
      refine TrL.fin ?_
      refine End.nxt ?_
      refine Tr.ret ?_
      refine Rts.thn ?_
      exact Rts.res1 (fn := Tryd.f5) rfl (.b rfl (by rfl) <| .nil)
    · intro h3
      try simp only [decide_eq_true_eq, Bool.not_eq_false', Bool.or_eq_false_iff] at h3
      refine Tr.skip ?_
      refine End.nxt ?_
      refine Tr.seq ?_
      refine Tr.rg ?_
      refine TrL.op (ok_ldBS rfl (fun _ => rfl)) rfl rfl ?_
      refine TrL.op (ok_call (fun hp => ct_hVertices _) (.s rfl (fun _ => rfl) rfl <| .nil)) rfl rfl ?_
      refine TrL.op (ok_move rfl (fun _ => rfl)) rfl rfl ?_
      refine TrL.op (ok_ext rfl (fun _ => rfl) rfl) rfl rfl ?_
      refine TrL.op (ok_ext rfl (fun _ => rfl) rfl) rfl rfl ?_
      refine TrL.op (ok_assign rfl (fun _ => rfl)) rfl rfl ?_
      refine TrL.op (ok_assign rfl (fun _ => rfl)) rfl rfl ?_
      refine TrL.fin ?_
      refine End.nxt ?_
      refine Tr.seq ?_
      refine Tr.rg ?_
      refine TrL.op (ok_ldBS rfl (fun _ => rfl)) rfl rfl ?_
      refine TrL.op (ok_move rfl (fun _ => rfl)) rfl rfl ?_
      refine TrL.op (ok_call (fun hp => ct_hBoundary _ _) (.s rfl (fun _ => rfl) rfl <| .a rfl (fun _ => rfl) <| .nil)) rfl rfl ?_
      refine TrL.op (ok_move rfl (fun _ => rfl)) rfl rfl ?_
      refine TrL.op (ok_ext rfl (fun _ => rfl) rfl) rfl rfl ?_
      refine TrL.op (ok_ext rfl (fun _ => rfl) rfl) rfl rfl ?_
      refine TrL.op (ok_assign rfl (fun _ => rfl)) rfl rfl ?_
      refine TrL.op (ok_assign rfl (fun _ => rfl)) rfl rfl ?_
      refine TrL.fin ?_
      refine End.nxt ?_
      refine Tr.seq ?_
      refine Tr.seq ?_
      refine Tr.rg ?_
      refine TrL.op (ok_ldBS rfl (fun _ => rfl)) rfl rfl ?_
      refine TrL.op (ok_call (fun hp => ct_rCheck _) (.s rfl (fun _ => rfl) rfl <| .nil)) rfl rfl ?_
      refine TrL.op (ok_assign rfl (fun _ => rfl)) rfl rfl ?_
      refine TrL.fin ?_
      refine End.nxt ?_
      refine Tr.seq ?_
      refine Tr.rg ?_
      refine TrL.op (ok_move rfl (fun _ => rfl)) rfl rfl ?_
      refine TrL.op (ok_neq rfl (fun _ => rfl) rfl (fun _ => rfl)) rfl rfl ?_
      refine TrL.fin ?_
      refine End.nxt ?_
      refine Tr.cnd rfl ?_ ?_
      · intro h8
        replace h8 := of_decide_eq_true h8
        refine Tr.seq ?_
        refine Tr.rg ?_
        refine TrL.op (ok_move rfl (fun _ => rfl)) rfl rfl ?_
        refine TrL.op (ok_move rfl (fun _ => rfl)) rfl rfl ?_
        refine TrL.op (ok_eql rfl (fun _ => rfl) rfl (fun _ => rfl)) rfl rfl ?_
        refine TrL.op (ok_move rfl (fun _ => rfl)) rfl rfl ?_
        refine TrL.gd rfl rfl rfl (ok_move rfl (fun _ => rfl)) rfl rfl ?_
        refine TrL.gd rfl rfl rfl (ok_move rfl (fun _ => rfl)) rfl rfl ?_
        refine TrL.gd rfl rfl rfl (ok_eql rfl id rfl id) rfl rfl ?_
        refine TrL.op (ok_and rfl (fun _ => rfl) rfl (fun hp h => gdT2 ((fun _ => rfl) hp) h)) rfl rfl ?_
        refine TrL.op (ok_move rfl (fun _ => rfl)) rfl rfl ?_
        refine TrL.gd rfl rfl rfl (ok_move rfl (fun _ => rfl)) rfl rfl ?_
        refine TrL.gd rfl rfl rfl (ok_lenJ rfl id) rfl rfl ?_
        refine TrL.gd rfl rfl rfl (ok_eql rfl id rfl (fun _ => rfl)) rfl rfl ?_
        refine TrL.op (ok_and rfl (fun _ => rfl) rfl (fun hp h => gdT2 ((fun _ => rfl) hp) h)) rfl rfl ?_
        refine TrL.op (ok_move rfl (fun _ => rfl)) rfl rfl ?_
        refine TrL.gd rfl rfl rfl (ok_move rfl (fun _ => rfl)) rfl rfl ?_
        refine TrL.gd rfl rfl rfl (ok_lenJ rfl id) rfl rfl ?_
        refine TrL.gd rfl rfl rfl (ok_eql rfl id rfl (fun _ => rfl)) rfl rfl ?_
        refine TrL.op (ok_and rfl (fun _ => rfl) rfl (fun hp h => gdT2 ((fun _ => rfl) hp) h)) rfl rfl ?_
        refine TrL.op (ok_assign rfl (fun _ => rfl)) rfl rfl ?_
        refine TrL.fin ?_
        refine End.nxt ?_
        refine Tr.ret ?_
        refine Rts.thn ?_
        exact Rts.res1 (fn := Tryd.f5) rfl (.b rfl (by simp [orE_l h8, h8]) <| .nil)
      · intro h8
        replace h8 := Classical.not_not.1 (of_decide_eq_false h8)
        have v : Valid o := valid_of h8
        have hq := orE_r (b := chkC o.1.length c) h8
        refine Tr.skip ?_
        refine End.nxt ?_
        refine Tr.seq ?_
        refine Tr.rg ?_
        refine TrL.op (ok_ldBS rfl (fun _ => rfl)) rfl rfl ?_
        refine TrL.op (ok_call (fun hp => ct_rOpen _ v) (.s rfl (fun _ => rfl) rfl <| .nil)) rfl rfl ?_
        refine TrL.new (ok_alloc 10) rfl rfl rfl rfl ?_
        refine TrL.stB rfl rfl rfl rfl ?_
        refine TrL.fin ?_
        refine End.nxt ?_
        refine Tr.seq ?_
        refine Tr.seq ?_
        refine Tr.rg ?_
        refine TrL.op (ok_move rfl (fun _ => rfl)) rfl rfl ?_
        refine TrL.op (ok_neq rfl (fun _ => rfl) rfl (fun _ => rfl)) rfl rfl ?_
        refine TrL.op (ok_move rfl (fun _ => rfl)) rfl rfl ?_
        refine TrL.gd rfl rfl rfl (ok_move rfl (fun _ => rfl)) rfl rfl ?_
        refine TrL.gd rfl rfl rfl (ok_fldO rfl (fun _ => rfl)) rfl rfl ?_
        refine TrL.gd rfl rfl rfl (ok_ldB rfl id rfl) rfl rfl ?_
        refine TrL.gd rfl rfl rfl (ok_call (fun hp => ct_Ints _ _) (.a rfl id <| .a rfl id <| .nil)) rfl rfl ?_
        refine TrL.gd rfl rfl rfl (ok_not rfl id) rfl rfl ?_
        refine TrL.op (ok_or rfl (fun _ => rfl) rfl (fun hp h => gdF2 ((fun _ => rfl) hp) h)) rfl rfl ?_
        refine TrL.fin ?_
        refine End.nxt ?_
        refine Tr.cnd rfl ?_ ?_
        · intro h11
          try simp only [decide_eq_true_eq, decide_eq_false_iff_not, Bool.or_eq_true, Bool.not_eq_true', ne_eq] at h11
          simp [h8] at h11
        · intro h11
          try simp only [decide_eq_true_eq, decide_eq_false_iff_not, Bool.not_eq_false', Bool.or_eq_false_iff, ne_eq, Classical.not_not] at h11
          refine Tr.skip ?_
          refine End.nxt ?_
          refine Tr.seq ?_
          refine Tr.seq ?_
          refine Tr.rg ?_
          refine TrL.op (ok_ldBS rfl (fun _ => rfl)) rfl rfl ?_
          refine TrL.op (ok_move rfl (fun _ => rfl)) rfl rfl ?_
          refine TrL.op (ok_call (fun hp => ct_rCheckChain _ _ v) (.s rfl (fun _ => rfl) rfl <| .a rfl (fun _ => rfl) <| .nil)) rfl rfl ?_
          refine TrL.op (ok_assign rfl (fun _ => rfl)) rfl rfl ?_
          refine TrL.fin ?_
          refine End.nxt ?_
          refine Tr.seq ?_
          refine Tr.rg ?_
          refine TrL.op (ok_move rfl (fun _ => rfl)) rfl rfl ?_
          refine TrL.op (ok_neq rfl (fun _ => rfl) rfl (fun _ => rfl)) rfl rfl ?_
          refine TrL.fin ?_
          refine End.nxt ?_
          refine Tr.cnd rfl ?_ ?_
          · intro h14
            replace h14 := of_decide_eq_true h14
            refine Tr.seq ?_
            refine Tr.rg ?_
            refine TrL.op (ok_move rfl (fun _ => rfl)) rfl rfl ?_
            refine TrL.op (ok_move rfl (fun _ => rfl)) rfl rfl ?_
            refine TrL.op (ok_eql rfl (fun _ => rfl) rfl (fun _ => rfl)) rfl rfl ?_
            refine TrL.op (ok_move rfl (fun _ => rfl)) rfl rfl ?_
            refine TrL.gd rfl rfl rfl (ok_move rfl (fun _ => rfl)) rfl rfl ?_
            refine TrL.gd rfl rfl rfl (ok_lenJ rfl id) rfl rfl ?_
            refine TrL.gd rfl rfl rfl (ok_eql rfl id rfl (fun _ => rfl)) rfl rfl ?_
            refine TrL.op (ok_and rfl (fun _ => rfl) rfl (fun hp h => gdT2 ((fun _ => rfl) hp) h)) rfl rfl ?_
            refine TrL.op (ok_assign rfl (fun _ => rfl)) rfl rfl ?_
            refine TrL.fin ?_
            refine End.nxt ?_
            refine Tr.ret ?_
            refine Rts.thn ?_
            exact Rts.res1 (fn := Tryd.f5) rfl (.b rfl (by simp [hq, h14]) <| .nil)
          · intro h14
            replace h14 := Classical.not_not.1 (of_decide_eq_false h14)
            have hcl := chkC_len h14
            refine Tr.skip ?_
            refine End.nxt ?_
            refine Tr.seq ?_
            refine Tr.rg ?_
            refine TrL.op (ok_move rfl (fun _ => rfl)) rfl rfl ?_
            refine TrL.op (ok_eql rfl (fun _ => rfl) rfl (fun _ => rfl)) rfl rfl ?_
            refine TrL.op (ok_move rfl (fun _ => rfl)) rfl rfl ?_
            refine TrL.gd rfl rfl rfl (ok_move rfl (fun _ => rfl)) rfl rfl ?_
            refine TrL.gd rfl rfl rfl (ok_ldBS rfl (fun _ => rfl)) rfl rfl ?_
            refine TrL.gd rfl rfl rfl (ok_move rfl (fun _ => rfl)) rfl rfl ?_
            refine TrL.gd rfl rfl rfl (ok_call (fun hp => ct_rBoundary _ _ v (by assumption)) (.s rfl id rfl <| .a rfl id <| .nil)) rfl rfl ?_
            refine TrL.gd rfl rfl rfl (ok_call (fun hp => ct_Ints _ _) (.a rfl id <| .a rfl id <| .nil)) rfl rfl ?_
            refine TrL.op (ok_and rfl (fun _ => rfl) rfl (fun hp h => gdT2 ((fun _ => rfl) hp) h)) rfl rfl ?_
            refine TrL.op (ok_assign rfl (fun _ => rfl)) rfl rfl ?_
            refine TrL.fin ?_
            refine End.nxt ?_
            refine Tr.ret ?_
            exact Rts.res1 (fn := Tryd.f5) rfl (.b rfl (by have hE : orE (chkO o) (chkC o.1.length c) = 0 := hq.trans h14; simp [hE]) <| .nil)

set_option maxRecDepth 100000 in
theorem ct_HomologyIntersects (o : Ori) (a c : List Int) : Ct Tryd.prog 6 [kRd eO o, kRd (eL eI) a, kRd (eL eI) c] (kB true) := by
  refine Ct.mk Tryd.func6 rfl Tryd.ntmps6 rfl (fun w J => ?_)
  refine Tr.seq ?_
  refine Tr.rg ?_
  refine TrL.new (ok_box 3 rfl (fun _ => rfl) rfl) rfl rfl rfl rfl ?_
  refine TrL.op (ok_assign rfl (fun _ => rfl)) rfl rfl ?_
  refine TrL.fin ?_
  refine End.nxt ?_
  refine Tr.seq ?_
  refine Tr.seq ?_
  refine Tr.rg ?_
  refine TrL.op (ok_call (fun hp => ct_awake) (.nil)) rfl rfl ?_
  refine TrL.op (ok_not rfl (fun _ => rfl)) rfl rfl ?_
  refine TrL.fin ?_
  refine End.nxt ?_
  refine Tr.cnd rfl ?_ ?_
  · intro h1
    simp at h1
  · intro h1
    refine Tr.skip ?_
    refine End.nxt ?_
    refine Tr.seq ?_
    refine Tr.seq ?_
    refine Tr.rg ?_
    refine TrL.op (ok_ldBS rfl (fun _ => rfl)) rfl rfl ?_
    refine TrL.op (ok_call (fun hp => ct_Small _) (.s rfl (fun _ => rfl) rfl <| .nil)) rfl rfl ?_
    refine TrL.op (ok_not rfl (fun _ => rfl)) rfl rfl ?_
    refine TrL.op (ok_move rfl (fun _ => rfl)) rfl rfl ?_
    refine TrL.gd rfl rfl rfl (ok_move rfl (fun _ => rfl)) rfl rfl ?_
    refine TrL.gd rfl rfl rfl (ok_call (fun hp => ct_short _) (.a rfl id <| .nil)) rfl rfl ?_
    refine TrL.gd rfl rfl rfl (ok_not rfl id) rfl rfl ?_
    refine TrL.op (ok_or rfl (fun _ => rfl) rfl (fun hp h => gdF2 ((fun _ => rfl) hp) h)) rfl rfl ?_
    refine TrL.op (ok_move rfl (fun _ => rfl)) rfl rfl ?_
    refine TrL.gd rfl rfl rfl (ok_move rfl (fun _ => rfl)) rfl rfl ?_
    refine TrL.gd rfl rfl rfl (ok_call (fun hp => ct_short _) (.a rfl id <| .nil)) rfl rfl ?_
    refine TrL.gd rfl rfl rfl (ok_not rfl id) rfl rfl ?_
    refine TrL.op (ok_or rfl (fun _ => rfl) rfl (fun hp h => gdF2 ((fun _ => rfl) hp) h)) rfl rfl ?_
    refine TrL.fin ?_
    refine End.nxt ?_
    refine Tr.cnd rfl ?_ ?_
    · intro h3
      try simp only [decide_eq_false_iff_not, Bool.or_eq_true, Bool.not_eq_true', Nat.not_le] at h3
      refine Tr.seq ?_
      refine Tr.rg ?_
      refine TrL.op (ok_assign rfl (fun _ => rfl)) rfl rfl ?_
      refine TrL.fin ?_
      refine End.nxt ?_
      refine Tr.ret ?_
      refine Rts.thn ?_
      exact Rts.res1 (fn := Tryd.f6) rfl (.b rfl (by rfl) <| .nil)
    · intro h3
      try simp only [decide_eq_true_eq, Bool.not_eq_false', Bool.or_eq_false_iff] at h3
      refine Tr.skip ?_
      refine End.nxt ?_
      refine Tr.seq ?_
      refine Tr.rg ?_
      refine TrL.op (ok_ldBS rfl (fun _ => rfl)) rfl rfl ?_
      refine TrL.op (ok_move rfl (fun _ => rfl)) rfl rfl ?_
      refine TrL.op (ok_move rfl (fun _ => rfl)) rfl rfl ?_
      refine TrL.op (ok_call (fun hp => ct_hIntersect _ _ _) (.s rfl (fun _ => rfl) rfl <| .a rfl (fun _ => rfl) <| .a rfl (fun _ => rfl) <| .nil)) rfl rfl ?_
      refine TrL.op (ok_move rfl (fun _ => rfl)) rfl rfl ?_
      refine TrL.op (ok_ext rfl (fun _ => rfl) rfl) rfl rfl ?_
      refine TrL.op (ok_ext rfl (fun _ => rfl) rfl) rfl rfl ?_
      refine TrL.op (ok_assign rfl (fun _ => rfl)) rfl rfl ?_
      refine TrL.op (ok_assign rfl (fun _ => rfl)) rfl rfl ?_
      refine TrL.fin ?_
      refine End.nxt ?_
      refine Tr.seq ?_
      refine Tr.rg ?_
      refine TrL.op (ok_ldBS rfl (fun _ => rfl)) rfl rfl ?_
      refine TrL.op (ok_move rfl (fun _ => rfl)) rfl rfl ?_
      refine TrL.op (ok_move rfl (fun _ => rfl)) rfl rfl ?_
      refine TrL.op (ok_bslJ (eL eI) (fun hp => .cons rfl <| .cons rfl <| .nil) rfl rfl rfl rfl) rfl rfl ?_
      refine TrL.op (ok_call (fun hp => ct_hGram _ _) (.s rfl (fun _ => rfl) rfl <| .a rfl (fun _ => rfl) <| .nil)) rfl rfl ?_
      refine TrL.op (ok_move rfl (fun _ => rfl)) rfl rfl ?_
      refine TrL.op (ok_ext rfl (fun _ => rfl) rfl) rfl rfl ?_
      refine TrL.op (ok_ext rfl (fun _ => rfl) rfl) rfl rfl ?_
      refine TrL.op (ok_assign rfl (fun _ => rfl)) rfl rfl ?_
      refine TrL.op (ok_assign rfl (fun _ => rfl)) rfl rfl ?_
      refine TrL.fin ?_
      refine End.nxt ?_
      refine Tr.seq ?_
      refine Tr.seq ?_
      refine Tr.rg ?_
      refine TrL.op (ok_ldBS rfl (fun _ => rfl)) rfl rfl ?_
      refine TrL.op (ok_move rfl (fun _ => rfl)) rfl rfl ?_
      refine TrL.op (ok_move rfl (fun _ => rfl)) rfl rfl ?_
      refine TrL.op (ok_bslJ (eL eI) (fun hp => .cons rfl <| .cons rfl <| .nil) rfl rfl rfl rfl) rfl rfl ?_
      refine TrL.op (ok_call (fun hp => ct_lcycles _ _) (.s rfl (fun _ => rfl) rfl <| .a rfl (fun _ => rfl) <| .nil)) rfl rfl ?_
      refine TrL.op (ok_assign rfl (fun _ => rfl)) rfl rfl ?_
      refine TrL.fin ?_
      refine End.nxt ?_
      refine Tr.seq ?_
      refine Tr.rg ?_
      refine TrL.op (ok_move rfl (fun _ => rfl)) rfl rfl ?_
      refine TrL.op (ok_neq rfl (fun _ => rfl) rfl (fun _ => rfl)) rfl rfl ?_
      refine TrL.fin ?_
      refine End.nxt ?_
      refine Tr.cnd rfl ?_ ?_
      · intro h8
        replace h8 := of_decide_eq_true h8
        rw [chk2] at h8
        refine Tr.seq ?_
        refine Tr.rg ?_
        refine TrL.op (ok_move rfl (fun _ => rfl)) rfl rfl ?_
        refine TrL.op (ok_move rfl (fun _ => rfl)) rfl rfl ?_
        refine TrL.op (ok_eql rfl (fun _ => rfl) rfl (fun _ => rfl)) rfl rfl ?_
        refine TrL.op (ok_move rfl (fun _ => rfl)) rfl rfl ?_
        refine TrL.gd rfl rfl rfl (ok_move rfl (fun _ => rfl)) rfl rfl ?_
        refine TrL.gd rfl rfl rfl (ok_move rfl (fun _ => rfl)) rfl rfl ?_
        refine TrL.gd rfl rfl rfl (ok_eql rfl id rfl id) rfl rfl ?_
        refine TrL.op (ok_and rfl (fun _ => rfl) rfl (fun hp h => gdT2 ((fun _ => rfl) hp) h)) rfl rfl ?_
        refine TrL.op (ok_move rfl (fun _ => rfl)) rfl rfl ?_
        refine TrL.gd rfl rfl rfl (ok_move rfl (fun _ => rfl)) rfl rfl ?_
        refine TrL.gd rfl rfl rfl (ok_eql rfl id rfl (fun _ => rfl)) rfl rfl ?_
        refine TrL.op (ok_and rfl (fun _ => rfl) rfl (fun hp h => gdT2 ((fun _ => rfl) hp) h)) rfl rfl ?_
        refine TrL.op (ok_move rfl (fun _ => rfl)) rfl rfl ?_
        refine TrL.gd rfl rfl rfl (ok_move rfl (fun _ => rfl)) rfl rfl ?_
        refine TrL.gd rfl rfl rfl (ok_lenJ rfl id) rfl rfl ?_
        refine TrL.gd rfl rfl rfl (ok_eql rfl id rfl (fun _ => rfl)) rfl rfl ?_
        refine TrL.op (ok_and rfl (fun _ => rfl) rfl (fun hp h => gdT2 ((fun _ => rfl) hp) h)) rfl rfl ?_
        refine TrL.op (ok_assign rfl (fun _ => rfl)) rfl rfl ?_
        refine TrL.fin ?_
        refine End.nxt ?_
        refine Tr.ret ?_
        refine Rts.thn ?_
        exact Rts.res1 (fn := Tryd.f6) rfl (.b rfl (by simp only [chk2]; simp [h8]) <| .nil)
      · intro h8
        replace h8 := Classical.not_not.1 (of_decide_eq_false h8)
        rw [chk2] at h8
        have v : Valid o := valid_of (orE_zero.1 h8).1
        have hz := orE_zero.1 (orE_zero.1 h8).2
        have hla := chkC_len (orE_zero.1 hz.1).1
        have hlc := chkC_len (orE_zero.1 hz.2).1
        refine Tr.skip ?_
        refine End.nxt ?_
        refine Tr.seq ?_
        refine Tr.rg ?_
        refine TrL.op (ok_ldBS rfl (fun _ => rfl)) rfl rfl ?_
        refine TrL.op (ok_call (fun hp => ct_rOpen _ v) (.s rfl (fun _ => rfl) rfl <| .nil)) rfl rfl ?_
        refine TrL.new (ok_alloc 12) rfl rfl rfl rfl ?_
        refine TrL.stB rfl rfl rfl rfl ?_
        refine TrL.fin ?_
        refine End.nxt ?_
        refine Tr.seq ?_
        refine Tr.rg ?_
        refine TrL.op (ok_move rfl (fun _ => rfl)) rfl rfl ?_
        refine TrL.op (ok_eql rfl (fun _ => rfl) rfl (fun _ => rfl)) rfl rfl ?_
        refine TrL.op (ok_move rfl (fun _ => rfl)) rfl rfl ?_
        refine TrL.gd rfl rfl rfl (ok_move rfl (fun _ => rfl)) rfl rfl ?_
        refine TrL.gd rfl rfl rfl (ok_ldBS rfl (fun _ => rfl)) rfl rfl ?_
        refine TrL.gd rfl rfl rfl (ok_move rfl (fun _ => rfl)) rfl rfl ?_
        refine TrL.gd rfl rfl rfl (ok_move rfl (fun _ => rfl)) rfl rfl ?_
        refine TrL.gd rfl rfl rfl (ok_call (fun hp => ct_rIntersect _ _ _ v (by assumption) (by assumption)) (.s rfl id rfl <| .a rfl id <| .a rfl id <| .nil)) rfl rfl ?_
        refine TrL.gd rfl rfl rfl (ok_eql rfl id rfl id) rfl rfl ?_
        refine TrL.op (ok_and rfl (fun _ => rfl) rfl (fun hp h => gdT2 ((fun _ => rfl) hp) h)) rfl rfl ?_
        refine TrL.op (ok_move rfl (fun _ => rfl)) rfl rfl ?_
        refine TrL.gd rfl rfl rfl (ok_move rfl (fun _ => rfl)) rfl rfl ?_
        refine TrL.gd rfl rfl rfl (ok_eql rfl id rfl (fun _ => rfl)) rfl rfl ?_
        refine TrL.op (ok_and rfl (fun _ => rfl) rfl (fun hp h => gdT2 ((fun _ => rfl) hp) h)) rfl rfl ?_
        refine TrL.op (ok_move rfl (fun _ => rfl)) rfl rfl ?_
        refine TrL.gd rfl rfl rfl (ok_move rfl (fun _ => rfl)) rfl rfl ?_
        refine TrL.gd rfl rfl rfl (ok_ldBS rfl (fun _ => rfl)) rfl rfl ?_
        refine TrL.gd rfl rfl rfl (ok_move rfl (fun _ => rfl)) rfl rfl ?_
        refine TrL.gd rfl rfl rfl (ok_move rfl (fun _ => rfl)) rfl rfl ?_
        refine TrL.gd rfl rfl rfl (ok_bslJ (eL eI) (fun hp => .consG rfl (id hp) <| .consG rfl (id hp) <| .nil) rfl rfl rfl rfl) rfl rfl ?_
        refine TrL.gd rfl rfl rfl (ok_call (fun hp => ct_rGram _ _ v (len2 hla hlc) (by simp)) (.s rfl id rfl <| .a rfl id <| .nil)) rfl rfl ?_
        refine TrL.gd rfl rfl rfl (ok_call (fun hp => ct_Lists _ _) (.a rfl id <| .a rfl id <| .nil)) rfl rfl ?_
        refine TrL.op (ok_and rfl (fun _ => rfl) rfl (fun hp h => gdT2 ((fun _ => rfl) hp) h)) rfl rfl ?_
        refine TrL.op (ok_assign rfl (fun _ => rfl)) rfl rfl ?_
        refine TrL.fin ?_
        refine End.nxt ?_
        refine Tr.ret ?_
        exact Rts.res1 (fn := Tryd.f6) rfl (.b rfl (by simp only [chk2]; simp [h8]) <| .nil)

end Go.Fl

/- Sums over all squares; intersection numbers as such sums. Plain Lean, no program in sight. -/
namespace Go.Fl
open Go Go.RowKit
def sumL (f : Int → Int) : List Int → Int
  | [] => 0
  | x :: r => f x + sumL f r
theorem sumL_append {f : Int → Int} : ∀ {a b : List Int}, sumL f (a ++ b) = sumL f a + sumL f b
  | [], b => by simp [sumL]
  | x :: a, b => by simp only [List.cons_append, sumL, sumL_append (a := a)]; omega
theorem sumL_perm {f : Int → Int} {a b : List Int} (h : a.Perm b) : sumL f a = sumL f b := by
  induction h with
  | nil => rfl
  | cons x _ ih => simp only [sumL, ih]
  | swap x y l => simp only [sumL]; omega
  | trans _ _ h1 h2 => exact h1.trans h2
theorem sumTo_list {f : Int → Int} {l : List Int} : sumTo (fun i => f (nth l i)) l.length = sumL f l := by
  have key : ∀ k, k ≤ l.length → sumTo (fun i => f (nth l i)) k = sumL f (l.take k) := by
    intro k
    induction k with
    | zero => intro _; simp [sumTo, sumL]
    | succ k ih =>
      intro hk
      rw [sumTo_succ, ih (by omega), take_succ_nth (by omega), sumL_append]
      simp [sumL]
  have := key l.length (Nat.le_refl _)
  rwa [List.take_length] at this
def sq (n : Nat) : List Int := (List.range n).map (fun i : Nat => (i : Int))
theorem sq_len {n : Nat} : (sq n).length = n := by simp [sq]
theorem nth_sq {n i : Nat} (h : i < n) : nth (sq n) i = i := by unfold sq; rw [nth_map (by simpa using h), nth_range h]
theorem mem_sq {n : Nat} {x : Int} : x ∈ sq n ↔ Sq n x := by
  unfold sq
  rw [List.mem_map]
  constructor
  · rintro ⟨i, hi, rfl⟩; exact Sq.nat (List.mem_range.1 hi)
  · intro h; exact ⟨x.toNat, List.mem_range.2 (by have := h.1; have := h.2; omega), Int.toNat_of_nonneg h.1⟩
theorem sq_nodup {n : Nat} : (sq n).Nodup := nodup_of_nth fun i j hi hj e => by
  rw [sq_len] at hi hj
  rw [nth_sq hi, nth_sq hj] at e; omega
/-- The sum over all squares. -/
def S (n : Nat) (f : Int → Int) : Int := sumTo (fun i : Nat => f i) n
theorem S_sq {n : Nat} {f : Int → Int} : S n f = sumL f (sq n) := by
  rw [← sumTo_list, sq_len]
  exact sumTo_congr fun i hi => by rw [nth_sq hi]
theorem perm_sq {n : Nat} {l : List Int} (h : Good n l) (hall : ∀ x, Sq n x → x ∈ l) : l.Perm (sq n) :=
  (List.perm_ext_iff_of_nodup h.nodup sq_nodup).2 fun x => ⟨fun hx => mem_sq.2 (h.rng x hx), fun hx => hall x (mem_sq.1 hx)⟩
theorem S_congr {n : Nat} {f g : Int → Int} (h : ∀ x, Sq n x → f x = g x) : S n f = S n g := sumTo_congr fun i hi => h i (Sq.nat hi)
theorem S_add {n : Nat} {f g : Int → Int} : S n (fun x => f x + g x) = S n f + S n g := sumTo_add
theorem S_sub {n : Nat} {f g : Int → Int} : S n (fun x => f x - g x) = S n f - S n g := sumTo_sub
theorem S_neg {n : Nat} {f : Int → Int} : S n (fun x => -f x) = -S n f := sumTo_neg
theorem S_mul {n : Nat} {f : Int → Int} {a : Int} : S n (fun x => a * f x) = a * S n f := sumTo_mul
theorem S_zero {n : Nat} : S n (fun _ => 0) = 0 := sumTo_zero
theorem S_re {n : Nat} {p : List Int} (P : Perm p n) {f : Int → Int} : S n (fun x => f (ap p x)) = S n f := by
  have h1 : S n (fun x => f (ap p x)) = sumL f p := by
    rw [← sumTo_list, P.ln]
    exact sumTo_congr fun i _ => by simp [ap]
  rw [h1, S_sq]
  exact sumL_perm (perm_sq ⟨P.nd, fun x hx => by obtain ⟨i, hi, rfl⟩ := mem_nth hx; exact P.rg i hi⟩ fun x hx => by
    obtain ⟨i, hi, rfl⟩ := perm_mem P.nd P.rg P.ln hx.1 hx.2
    exact nth_mem (by rw [P.ln]; exact hi))
/-- One square alone. -/
theorem S_one {n : Nat} {y : Int} (hy : Sq n y) {f : Int → Int} : S n (fun x => if x = y then f x else 0) = f y := by
  have key : ∀ k : Nat, sumTo (fun i : Nat => if (i : Int) = y then f i else 0) k = if y < k then f y else 0 := by
    intro k
    induction k with
    | zero => rw [if_neg (by have := hy.1; omega)]; rfl
    | succ k ih =>
      rw [sumTo_succ, ih]
      by_cases e : (k : Int) = y
      · rw [if_pos e, if_neg (by omega), if_pos (by omega), e]; omega
      · rw [if_neg e]
        by_cases h : y < k
        · rw [if_pos h, if_pos (by omega)]; omega
        · rw [if_neg h, if_neg (by omega)]; omega
  rw [S, key, if_pos hy.2]
theorem Perm.ap_inv {p : List Int} {n : Nat} (P : Perm p n) {x : Int} (h : Sq n x) : ap p (ap (invL p) x) = x := at_inv P.nd P.rg P.ln h.1 h.2
theorem Perm.inv_ap {p : List Int} {n : Nat} (P : Perm p n) {x : Int} (h : Sq n x) : ap (invL p) (ap p x) = x := by
  have := inv_at P.nd P.rg P.ln (i := x.toNat) (by have := h.1; have := h.2; omega)
  unfold ap
  rw [this, Int.toNat_of_nonneg h.1]
theorem S_delta {n : Nat} {p : List Int} (P : Perm p n) {y : Int} (hy : Sq n y) {f : Int → Int} : S n (fun x => if y = ap p x then f x else 0) = f (ap (invL p) y) := by
  rw [← S_one (n := n) (P.inv.aps hy) (f := f)]
  refine S_congr fun x hx => ?_
  by_cases h : y = ap p x
  · rw [if_pos h, if_pos (by rw [h, P.inv_ap hx])]
  · rw [if_neg h, if_neg (fun e => h (by rw [e, P.ap_inv hy]))]
section
variable {o : Ori} (v : Valid o)
def aH (a : List Int) (x : Int) : Int := nth a x.toNat
def aV (n : Nat) (a : List Int) (x : Int) : Int := nth a ((n : Int) + x).toNat
def exc (o : Ori) (b : List Int) (x : Int) : Int := aH b (ap (invL o.1) x) + aV o.1.length b (ap (invL o.2) x) - aH b x - aV o.1.length b x
include v
theorem excS_eq {b : List Int} {j : Nat} (hj : j < o.1.length) : excS o b o.1.length j = exc o b j := by
  have h1 := S_delta v.pR (Sq.nat hj) (f := aH b)
  have h2 := S_delta v.pU (Sq.nat hj) (f := aV o.1.length b)
  have h3 := S_one (Sq.nat hj) (f := fun x => aH b x + aV o.1.length b x)
  have : excS o b o.1.length j = S o.1.length (fun x => (if (j : Int) = ap o.1 x then aH b x else 0) + (if (j : Int) = ap o.2 x then aV o.1.length b x else 0) - (if x = (j : Int) then aH b x + aV o.1.length b x else 0)) := by
    refine sumTo_congr fun i hi => ?_
    simp only [ap, aH, aV, Int.toNat_natCast]
    by_cases e : j = i
    · subst e; rw [if_pos rfl, if_pos rfl]; rfl
    · rw [if_neg e, if_neg (show ¬ (i : Int) = j by omega)]; rfl
  rw [this, S_sub, S_add, h1, h2, h3]; unfold exc; omega
theorem sum_vtx {f : Int → Int} : sumTo (fun m => sumL f (nth (vtx o) m)) (vtx o).length = S o.1.length f := by
  have key : ∀ k, k ≤ (vtx o).length → sumTo (fun m => sumL f (nth (vtx o) m)) k = sumL f ((vtx o).take k).flatten := by
    intro k
    induction k with
    | zero => intro _; simp [sumTo, sumL]
    | succ k ih =>
      intro hk
      rw [sumTo_succ, ih (by omega), take_succ_nth (by omega), List.flatten_append, sumL_append]
      simp
  rw [key _ (Nat.le_refl _), List.take_length, S_sq]
  refine sumL_perm (perm_sq (vtx_good v) fun x hx => ?_)
  have := vtx_all v (i := x.toNat) (by have := hx.1; have := hx.2; omega)
  rwa [Int.toNat_of_nonneg hx.1] at this
def Zf (o : Ori) (b : List Int) (x : Int) : Int := isz o b (nth (vtx o) (nth (vertL o) x.toNat).toNat) ((nth (vtx o) (nth (vertL o) x.toNat).toNat).idxOf x + 1)
theorem vtx_orb {m : Nat} (hm : m < (vtx o).length) : ∃ j : Nat, j < o.1.length ∧ nth (vtx o) m = orb (comm o) j := by
  obtain ⟨j, hj, _, e⟩ := v.pC.cycs_mem (Nat.le_refl _) (show nth (vtx o) m ∈ vtx o from nth_mem hm)
  exact ⟨j, hj, e⟩
theorem Zf_at {b : List Int} {m i : Nat} (hm : m < (vtx o).length) (hi : i < (nth (vtx o) m).length) : Zf o b (nth (nth (vtx o) m) i) = isz o b (nth (vtx o) m) (i + 1) := by
  obtain ⟨j, hj, e⟩ := vtx_orb v hm
  have hv := vert_of v hm (nth_mem hi)
  unfold Zf
  rw [hv, Int.toNat_natCast, idxOf_nth hi (fun q hq he => ?_)]
  have hnd := v.pC.orb_nodup (Sq.nat hj)
  rw [← e] at hnd
  have := nodup_nth hnd (i := q) (j := i) (by omega) hi he
  omega
theorem T_at {m i : Nat} (hm : m < (vtx o).length) (hi : i < (nth (vtx o) m).length) : ap (comm o) (nth (nth (vtx o) m) i) = nxt (nth (vtx o) m) i := by
  obtain ⟨j, hj, e⟩ := vtx_orb v hm
  rw [e] at hi ⊢
  exact v.pC.orb_next (Sq.nat hj) hi
theorem vtx_sq {m i : Nat} (hm : m < (vtx o).length) (hi : i < (nth (vtx o) m).length) : Sq o.1.length (nth (nth (vtx o) m) i) := vtx_mem v hm hi
def brk (o : Ori) (a : List Int) (x : Int) : Int := aV o.1.length a x - aH a (ap (invL o.1) x) - aV o.1.length a (ap (invL o.2) (ap (comm o) x)) + aH a (ap (comm o) x)
/-- The intersection number as a sum over all squares. -/
theorem isI_S {a b : List Int} : isI o a b = S o.1.length (fun x => aV o.1.length b x * aH a (ap o.2 x) - aH b x * aV o.1.length a (ap o.1 x)) + S o.1.length (fun x => Zf o b x * brk o a x) := by
  unfold isI
  have h1 : is1 o a b o.1.length = S o.1.length (fun x => aV o.1.length b x * aH a (ap o.2 x) - aH b x * aV o.1.length a (ap o.1 x)) := rfl
  rw [h1, ← sum_vtx v (f := fun x => Zf o b x * brk o a x)]
  congr 1
  unfold isT
  refine sumTo_congr fun m hm => ?_
  rw [← sumTo_list]
  unfold is2
  refine sumTo_congr fun i hi => ?_
  rw [Zf_at v hm hi]
  unfold isA brk
  rw [T_at v hm hi]
  rfl
end
end Go.Fl

/- The intersection form: linear, 0 with boundaries, antisymmetric on cycles. Plain Lean, no program in sight. -/
namespace Go.Fl
open Go Go.RowKit
/-! ### Cycles: nothing is left at a vertex -/
theorem sumTo_bound {f : Nat → Int} {B : Int} {n : Nat} (h : ∀ i, i < n → -B ≤ f i ∧ f i ≤ B) : -(n * B) ≤ sumTo f n ∧ sumTo f n ≤ n * B := by
  have key : ∀ k : Nat, k ≤ n → -(k * B) ≤ sumTo f k ∧ sumTo f k ≤ k * B := by
    intro k
    induction k with
    | zero => intro _; simp [sumTo]
    | succ k ih =>
      intro hk
      have h1 := ih (by omega)
      have h2 := h k (by omega)
      rw [sumTo_succ, show ((k + 1 : Nat) : Int) * B = k * B + B by rw [Int.natCast_add, Int.add_mul]; simp]
      omega
  exact key n (Nat.le_refl _)
theorem rng_at {c : List Int} (h : rngC c = 0) (i : Nat) : -1000000 ≤ nth c i ∧ nth c i ≤ 1000000 := by
  by_cases hi : i < c.length
  · unfold rngC at h
    by_cases ha : c.any outC = true
    · rw [if_pos ha] at h; cases h
    · have hb : c.any outC = false := by simpa using ha
      have := any_false_iff.1 hb i hi
      unfold outC at this
      have := of_decide_eq_false this
      omega
  · have : nth c i = 0 := by unfold nth; rw [List.getD_eq_getElem?_getD, List.getElem?_eq_none (by omega)]; rfl
    omega
theorem chkC_rng {n : Nat} {c : List Int} (h : chkC n c = 0) : rngC c = 0 := by
  unfold chkC at h
  by_cases h1 : c.length ≠ 2 * n
  · rw [if_pos h1] at h; cases h
  · rw [if_neg h1] at h; exact h
theorem bnd_small {o : Ori} (_v : Valid o) {c : List Int} (hc : ∀ i, -1000000 ≤ nth c i ∧ nth c i ≤ 1000000) {j k : Nat} (hk : k ≤ 120) : -1000000000 ≤ bndS o c k j ∧ bndS o c k j ≤ 1000000000 := by
  have := sumTo_bound (f := fun e : Nat => (if (j : Int) = endT o e then nth c e else 0) - (if (j : Int) = endF o e then nth c e else 0)) (B := 2000000) (n := k) (fun i hi => by
    have := hc i
    split <;> split <;> omega)
  unfold bndS
  omega
structure Cyc (o : Ori) (c : List Int) : Prop where
  len : c.length = 2 * o.1.length
  rng : ∀ i, -1000000 ≤ nth c i ∧ nth c i ≤ 1000000
  bnd : ∀ j : Nat, j < (vtx o).length → rbS o c o.1.length j = 0
theorem rbS_eq {o : Ori} {c : List Int} (hc : c.length = 2 * o.1.length) {j : Nat} : rbS o c o.1.length j = bndS o c c.length j := by
  rw [bndS, hc, show 2 * o.1.length = o.1.length + o.1.length by omega, sumTo_append, ← sumTo_add]
  refine sumTo_congr fun i hi => ?_
  have e1 : endT o (i : Nat) = nth (vertL o) (nth o.1 i).toNat := by unfold endT; rw [if_pos (by omega)]; simp
  have e2 : endF o (i : Nat) = nth (vertL o) i := by unfold endF; rw [if_pos (by omega)]; simp
  have e3 : endT o ((o.1.length + i : Nat) : Int) = nth (vertL o) (nth o.2 i).toNat := by unfold endT; rw [if_neg (by omega), show (((o.1.length + i : Nat) : Int) - o.1.length).toNat = i by omega]
  have e4 : endF o ((o.1.length + i : Nat) : Int) = nth (vertL o) i := by unfold endF; rw [if_neg (by omega), show (((o.1.length + i : Nat) : Int) - o.1.length).toNat = i by omega]
  rw [e1, e2, e3, e4, show ((o.1.length : Int) + i).toNat = o.1.length + i by omega]
  omega
theorem chkZ_cyc {o : Ori} (v : Valid o) {c : List Int} : chkZ o c = 0 ↔ Cyc o c := by
  unfold chkZ
  constructor
  · intro h
    obtain ⟨h1, h2⟩ := orE_zero.1 h
    have hl := chkC_len h1
    have hr := rng_at (chkC_rng h1)
    have hv := v.le
    refine ⟨hl, hr, fun j hj => ?_⟩
    have hany : (bndW o c).any nz = false := by
      cases hh : (bndW o c).any nz with
      | false => rfl
      | true => rw [if_pos hh] at h2; cases h2
    have h3 := any_false_iff.1 hany j (by unfold bndW; rw [bndT_len]; exact hj)
    have h4 : nth (bndW o c) j = 0 := by simpa [nz] using h3
    unfold bndW bndT at h4
    rw [nth_tab hj] at h4
    have hb := bnd_small v hr (j := j) (k := c.length) (by omega)
    rw [W_in (by omega) (by omega)] at h4
    rw [rbS_eq hl]; exact h4
  · intro h
    refine orE_zero.2 ⟨?_, ?_⟩
    · unfold chkC rngC
      rw [if_neg (by have := h.len; omega), if_neg]
      rw [any_false_iff.2 fun i _ => by unfold outC; have := h.rng i; exact decide_eq_false (by omega)]; simp
    · rw [if_neg]
      rw [any_false_iff.2 fun j hj => by
        unfold bndW at hj
        rw [bndT_len] at hj
        have := h.bnd j hj
        rw [rbS_eq h.len] at this
        unfold bndW bndT
        rw [nth_tab hj, this]; rfl]; simp
section
variable {o : Ori} (v : Valid o)
include v
/-- The boundary at a vertex is the excess of its squares. -/
theorem rbS_exc {c : List Int} {m : Nat} (hm : m < (vtx o).length) : rbS o c o.1.length m = sumL (exc o c) (nth (vtx o) m) := by
  have h1 : sumL (exc o c) (nth (vtx o) m) = S o.1.length (fun x => if nth (vertL o) x.toNat = m then exc o c x else 0) := by
    rw [← sum_vtx v]
    have key : ∀ q, q < (vtx o).length → sumL (fun x => if nth (vertL o) x.toNat = m then exc o c x else 0) (nth (vtx o) q) = if q = m then sumL (exc o c) (nth (vtx o) m) else 0 := by
      intro q hq
      rw [← sumTo_list]
      by_cases e : q = m
      · subst e
        rw [if_pos rfl, ← sumTo_list]
        refine sumTo_congr fun i hi => ?_
        rw [if_pos (vert_of v hq (nth_mem hi))]
      · rw [if_neg e]
        refine (sumTo_congr fun i hi => ?_).trans sumTo_zero
        have := vert_of v hq (nth_mem hi)
        exact if_neg (by omega)
    rw [sumTo_congr key]
    symm
    have := S_one (n := (vtx o).length) (y := (m : Int)) (Sq.nat hm) (f := fun _ => sumL (exc o c) (nth (vtx o) m))
    refine Eq.trans (sumTo_congr fun i hi => ?_) this
    show _ = if (i : Int) = (m : Int) then _ else 0
    by_cases e : i = m
    · subst e; rw [if_pos rfl, if_pos rfl]
    · rw [if_neg e, if_neg (by omega)]
  rw [h1]
  have hR := S_re v.pR (f := fun x => if nth (vertL o) x.toNat = m then aH c (ap (invL o.1) x) else 0)
  have hU := S_re v.pU (f := fun x => if nth (vertL o) x.toNat = m then aV o.1.length c (ap (invL o.2) x) else 0)
  have h2 : S o.1.length (fun x => if nth (vertL o) x.toNat = m then exc o c x else 0) = S o.1.length (fun x => if nth (vertL o) (ap o.1 x).toNat = m then aH c (ap (invL o.1) (ap o.1 x)) else 0) + S o.1.length (fun x => if nth (vertL o) (ap o.2 x).toNat = m then aV o.1.length c (ap (invL o.2) (ap o.2 x)) else 0) - S o.1.length (fun x => if nth (vertL o) x.toNat = m then aH c x + aV o.1.length c x else 0) := by
    rw [hR, hU, ← S_add, ← S_sub]
    refine S_congr fun x hx => ?_
    unfold exc
    split <;> omega
  rw [h2, ← S_add, ← S_sub]
  refine sumTo_congr fun i hi => ?_
  have hs := Sq.nat hi
  simp only
  rw [v.pR.inv_ap hs, v.pU.inv_ap hs]
  simp only [ap, aH, aV, Int.toNat_natCast, eq_comm (a := (m : Int))]
  split <;> split <;> split <;> omega
theorem Zf_step {b : List Int} (hb : Cyc o b) {x : Int} (hx : Sq o.1.length x) : Zf o b (ap (comm o) x) = Zf o b x + exc o b (ap (comm o) x) := by
  have hmem := vtx_all v (i := x.toNat) (by have := hx.1; have := hx.2; omega)
  rw [Int.toNat_of_nonneg hx.1] at hmem
  obtain ⟨c, hc, hxc⟩ := List.mem_flatten.1 hmem
  obtain ⟨m, hm, e⟩ : ∃ m, m < (vtx o).length ∧ nth (vtx o) m = c := by
    obtain ⟨m, hm, rfl⟩ := List.getElem_of_mem hc
    exact ⟨m, hm, nth_of_get? (List.getElem?_eq_getElem hm)⟩
  rw [← e] at hxc
  obtain ⟨i, hi, rfl⟩ := mem_nth hxc
  have hstep : ∀ j, j < (nth (vtx o) m).length → isz o b (nth (vtx o) m) (j + 1) = isz o b (nth (vtx o) m) j + exc o b (nth (nth (vtx o) m) j) := fun j hj => by
    have hs := vtx_sq v hm hj
    unfold isz
    rw [sumTo_succ, excS_eq v (by have := hs.1; have := hs.2; omega), Int.toNat_of_nonneg hs.1]
  rw [T_at v hm hi, Zf_at v hm hi]
  unfold nxt
  rcases Nat.lt_or_ge (i + 1) (nth (vtx o) m).length with h1 | h1
  · rw [Nat.mod_eq_of_lt h1, Zf_at v hm h1, hstep _ h1]
  · have hl : i + 1 = (nth (vtx o) m).length := by omega
    have hpos : 0 < (nth (vtx o) m).length := by omega
    rw [hl, Nat.mod_self, Zf_at v hm hpos, hstep 0 hpos]
    have htot : isz o b (nth (vtx o) m) (nth (vtx o) m).length = 0 := by
      have := hb.bnd m hm
      rw [rbS_exc v hm, ← sumTo_list] at this
      rw [← this]
      unfold isz
      refine sumTo_congr fun j hj => ?_
      have hs := vtx_sq v hm hj
      rw [excS_eq v (by have := hs.1; have := hs.2; omega), Int.toNat_of_nonneg hs.1]
    rw [htot]
    rfl
end
theorem T_eq {o : Ori} (_v : Valid o) {x : Int} (hx : Sq o.1.length x) : ap (comm o) x = ap o.2 (ap o.1 (ap (invL o.2) (ap (invL o.1) x))) := comm_at hx.1 hx.2
section
variable {o : Ori} (v : Valid o)
include v
/-- What the form makes of the first chain, edge by edge. -/
def fH (o : Ori) (b : List Int) (x : Int) : Int := Zf o b x - Zf o b (ap o.1 x) - aH b (ap (invL o.1) x) + aH b x + aV o.1.length b x
def fV (o : Ori) (b : List Int) (x : Int) : Int := Zf o b x - Zf o b (ap o.2 x) + exc o b (ap o.2 x) - aH b (ap (invL o.1) x)
theorem isI_f {a b : List Int} (hb : Cyc o b) : isI o a b = S o.1.length (fun x => aH a x * fH o b x + aV o.1.length a x * fV o b x) := by
  rw [isI_S v, S_sub]
  have pC := v.pC
  -- each term, put at the edge of a
  have t1 : S o.1.length (fun x => aV o.1.length b x * aH a (ap o.2 x)) = S o.1.length (fun x => aV o.1.length b (ap (invL o.2) x) * aH a x) := by
    rw [← S_re v.pU (f := fun x => aV o.1.length b (ap (invL o.2) x) * aH a x)]
    exact S_congr fun x hx => by rw [v.pU.inv_ap hx]
  have t2 : S o.1.length (fun x => aH b x * aV o.1.length a (ap o.1 x)) = S o.1.length (fun x => aH b (ap (invL o.1) x) * aV o.1.length a x) := by
    rw [← S_re v.pR (f := fun x => aH b (ap (invL o.1) x) * aV o.1.length a x)]
    exact S_congr fun x hx => by rw [v.pR.inv_ap hx]
  have t3 : S o.1.length (fun x => Zf o b x * aH a (ap (invL o.1) x)) = S o.1.length (fun x => Zf o b (ap o.1 x) * aH a x) := by
    rw [← S_re v.pR (f := fun x => Zf o b x * aH a (ap (invL o.1) x))]
    exact S_congr fun x hx => by rw [v.pR.inv_ap hx]
  have t4 : S o.1.length (fun x => Zf o b x * aH a (ap (comm o) x)) = S o.1.length (fun x => (Zf o b x - exc o b x) * aH a x) := by
    rw [← S_re pC (f := fun x => (Zf o b x - exc o b x) * aH a x)]
    exact S_congr fun x hx => by rw [Zf_step v hb hx]; congr 1; omega
  have t5 : S o.1.length (fun x => Zf o b x * aV o.1.length a (ap (invL o.2) (ap (comm o) x))) = S o.1.length (fun x => (Zf o b (ap o.2 x) - exc o b (ap o.2 x)) * aV o.1.length a x) := by
    have h1 := S_re pC (f := fun x => (Zf o b x - exc o b x) * aV o.1.length a (ap (invL o.2) x))
    have h2 := S_re v.pU (f := fun x => (Zf o b x - exc o b x) * aV o.1.length a (ap (invL o.2) x))
    rw [S_congr (g := fun x => (Zf o b (ap o.2 x) - exc o b (ap o.2 x)) * aV o.1.length a x) (fun x hx => by rw [v.pU.inv_ap hx])] at h2
    rw [h2, ← h1]
    exact S_congr fun x hx => by rw [Zf_step v hb hx]; congr 1; omega
  have t6 : S o.1.length (fun x => Zf o b x * brk o a x) = S o.1.length (fun x => Zf o b x * aV o.1.length a x) - S o.1.length (fun x => Zf o b x * aH a (ap (invL o.1) x)) - S o.1.length (fun x => Zf o b x * aV o.1.length a (ap (invL o.2) (ap (comm o) x))) + S o.1.length (fun x => Zf o b x * aH a (ap (comm o) x)) := by
    rw [← S_sub, ← S_sub, ← S_add]
    exact S_congr fun x _ => by unfold brk; rw [Int.mul_add, Int.mul_sub, Int.mul_sub]
  rw [t1, t2, t6, t3, t5, t4, ← S_sub, ← S_sub, ← S_sub, ← S_add, ← S_add]
  refine S_congr fun x hx => ?_
  unfold fH fV exc
  grind
end
end Go.Fl

/- The intersection form, further: antisymmetry, boundaries of squares. Plain Lean, no program in sight. -/
namespace Go.Fl
open Go Go.RowKit
theorem six (a b c p q r : Prop) [Decidable a] [Decidable b] [Decidable c] [Decidable p] [Decidable q] [Decidable r] :
    ((if a then (if p then 1 else 0) - (if q then 1 else 0) else 0) - (if c then (if p then 1 else 0) - (if q then 1 else 0) else 0) + (if b then (if r then 1 else 0) - (if p then 1 else 0) else 0) - (if c then (if r then 1 else 0) - (if p then 1 else 0) else 0) : Int)
      = (if p then (if a then 1 else 0) - (if b then 1 else 0) else 0) + (if q then (if c then 1 else 0) - (if a then 1 else 0) else 0) + (if r then (if b then 1 else 0) - (if c then 1 else 0) else 0) := by
  by_cases a <;> by_cases b <;> by_cases c <;> by_cases p <;> by_cases q <;> by_cases r <;> simp [*]
section
variable {o : Ori} (v : Valid o)
include v
theorem isI_lin {a a' c b : List Int} {k : Int} (hb : Cyc o b) (h : ∀ i, i < 2 * o.1.length → nth c i = nth a i + k * nth a' i) : isI o c b = isI o a b + k * isI o a' b := by
  rw [isI_f v hb, isI_f v hb, isI_f v hb, ← S_mul, ← S_add]
  refine S_congr fun x hx => ?_
  have h1 := hx.1; have h2 := hx.2
  have e1 : aH c x = aH a x + k * aH a' x := h _ (by omega)
  have e2 : aV o.1.length c x = aV o.1.length a x + k * aV o.1.length a' x := h _ (by omega)
  rw [e1, e2]; grind
def gC (o : Ori) (a : List Int) (x : Int) : Int := aV o.1.length a x - aH a (ap (invL o.1) x)
theorem isI_g {a b : List Int} (ha : Cyc o a) (hb : Cyc o b) : isI o a b = S o.1.length (fun x => aV o.1.length b (ap (invL o.2) x) * aH a x - aH b (ap (invL o.1) x) * aV o.1.length a x + gC o a x * exc o b x) - S o.1.length (fun x => Zf o b x * Zf o a (ap (comm o) x)) + S o.1.length (fun x => Zf o b x * Zf o a x) := by
  have pC := v.pC
  rw [isI_S v, S_sub]
  have t1 : S o.1.length (fun x => aV o.1.length b x * aH a (ap o.2 x)) = S o.1.length (fun x => aV o.1.length b (ap (invL o.2) x) * aH a x) := by
    rw [← S_re v.pU (f := fun x => aV o.1.length b (ap (invL o.2) x) * aH a x)]
    exact S_congr fun x hx => by rw [v.pU.inv_ap hx]
  have t2 : S o.1.length (fun x => aH b x * aV o.1.length a (ap o.1 x)) = S o.1.length (fun x => aH b (ap (invL o.1) x) * aV o.1.length a x) := by
    rw [← S_re v.pR (f := fun x => aH b (ap (invL o.1) x) * aV o.1.length a x)]
    exact S_congr fun x hx => by rw [v.pR.inv_ap hx]
  have t3 : S o.1.length (fun x => Zf o b x * gC o a (ap (comm o) x)) = S o.1.length (fun x => Zf o b x * gC o a x) - S o.1.length (fun x => gC o a x * exc o b x) := by
    rw [← S_sub, ← S_re pC (f := fun x => Zf o b x * gC o a x - gC o a x * exc o b x)]
    exact S_congr fun x hx => by rw [Zf_step v hb hx]; grind
  have t4 : S o.1.length (fun x => Zf o b x * brk o a x) = S o.1.length (fun x => Zf o b x * gC o a x) - S o.1.length (fun x => Zf o b x * gC o a (ap (comm o) x)) - (S o.1.length (fun x => Zf o b x * Zf o a (ap (comm o) x)) - S o.1.length (fun x => Zf o b x * Zf o a x)) := by
    rw [← S_sub, ← S_sub, ← S_sub]
    refine S_congr fun x hx => ?_
    rw [Zf_step v ha hx]
    unfold brk gC exc
    grind
  rw [t1, t2, t4, t3, S_add, S_sub]
  omega
theorem isI_anti {a b : List Int} (ha : Cyc o a) (hb : Cyc o b) : isI o a b = -isI o b a := by
  have pC := v.pC
  have h1 := isI_g v ha hb
  have h2 := isI_g v hb ha
  have e1 : S o.1.length (fun x => exc o a x * exc o b x) = S o.1.length (fun x => Zf o b x * Zf o a x) + S o.1.length (fun x => Zf o a x * Zf o b x) - S o.1.length (fun x => Zf o b x * Zf o a (ap (comm o) x)) - S o.1.length (fun x => Zf o a x * Zf o b (ap (comm o) x)) := by
    rw [← S_re pC (f := fun x => Zf o b x * Zf o a x), ← S_add, ← S_sub, ← S_sub, ← S_re pC (f := fun x => exc o a x * exc o b x)]
    refine S_congr fun x hx => ?_
    rw [Zf_step v ha hx, Zf_step v hb hx]
    grind
  have e2 : S o.1.length (fun x => aV o.1.length a (ap (invL o.2) x) * aV o.1.length b (ap (invL o.2) x)) = S o.1.length (fun x => aV o.1.length a x * aV o.1.length b x) := S_re v.pU.inv (f := fun x => aV o.1.length a x * aV o.1.length b x)
  have e3 : S o.1.length (fun x => aH a (ap (invL o.1) x) * aH b (ap (invL o.1) x)) = S o.1.length (fun x => aH a x * aH b x) := S_re v.pR.inv (f := fun x => aH a x * aH b x)
  have e4 : S o.1.length (fun x => aV o.1.length b (ap (invL o.2) x) * aH a x - aH b (ap (invL o.1) x) * aV o.1.length a x + gC o a x * exc o b x) + S o.1.length (fun x => aV o.1.length a (ap (invL o.2) x) * aH b x - aH a (ap (invL o.1) x) * aV o.1.length b x + gC o b x * exc o a x) + S o.1.length (fun x => exc o a x * exc o b x)
      = S o.1.length (fun x => aV o.1.length a (ap (invL o.2) x) * aV o.1.length b (ap (invL o.2) x)) + S o.1.length (fun x => aH a x * aH b x) - S o.1.length (fun x => aV o.1.length a x * aV o.1.length b x) - S o.1.length (fun x => aH a (ap (invL o.1) x) * aH b (ap (invL o.1) x)) := by
    rw [← S_add, ← S_add, ← S_add, ← S_sub, ← S_sub]
    refine S_congr fun x _ => ?_
    unfold gC exc
    grind
  omega
theorem isI_self {a : List Int} (ha : Cyc o a) : isI o a a = 0 := by have := isI_anti v ha ha; omega
/-! ### The boundary of a square -/
theorem comm_ru {q : Int} (hq : Sq o.1.length q) : ap (comm o) (ap o.1 (ap o.2 q)) = ap o.2 (ap o.1 q) := by
  have h1 := v.pU.aps hq
  rw [T_eq v (v.pR.aps h1), v.pR.inv_ap h1, v.pU.inv_ap hq]
theorem sq_H {q x : Int} (hq : Sq o.1.length q) (hx : Sq o.1.length x) : aH (sqL o q) x = (if x = q then 1 else 0) - (if x = ap o.2 q then 1 else 0) := by
  have h1 := hx.1; have h2 := hx.2; have h3 := hq.1
  have hr := (v.pR.aps hq).1
  have e : aH (sqL o q) x = W (sqI o q x.toNat) := by unfold aH sqL; rw [nth_tab (by omega)]
  have e1 : sqI o q x.toNat = (if x = q then 1 else 0) - (if x = ap o.2 q then 1 else 0) := by
    unfold sqI
    rw [Int.toNat_of_nonneg h1, if_neg (show ¬ x = o.1.length + nth o.1 q.toNat by have : nth o.1 q.toNat = ap o.1 q := rfl; omega), if_neg (show ¬ x = o.1.length + q by omega)]
    unfold ap; omega
  rw [e, e1]
  split <;> split <;> rfl
theorem sq_V {q x : Int} (hq : Sq o.1.length q) (hx : Sq o.1.length x) : aV o.1.length (sqL o q) x = (if x = ap o.1 q then 1 else 0) - (if x = q then 1 else 0) := by
  have h1 := hx.1; have h2 := hx.2; have h3 := hq.2
  have hu := (v.pU.aps hq).2
  have e : aV o.1.length (sqL o q) x = W (sqI o q ((o.1.length : Int) + x).toNat) := by unfold aV sqL; rw [nth_tab (by omega)]
  have e1 : sqI o q ((o.1.length : Int) + x).toNat = (if x = ap o.1 q then 1 else 0) - (if x = q then 1 else 0) := by
    unfold sqI
    have hr : nth o.2 q.toNat = ap o.2 q := rfl
    have hr' : nth o.1 q.toNat = ap o.1 q := rfl
    rw [Int.toNat_of_nonneg (by omega), if_neg (show ¬ (o.1.length : Int) + x = q by omega), if_neg (show ¬ (o.1.length : Int) + x = nth o.2 q.toNat by omega), hr']
    have a1 : ((o.1.length : Int) + x = o.1.length + ap o.1 q) = (x = ap o.1 q) := propext ⟨fun h => by omega, fun h => by omega⟩
    have a2 : ((o.1.length : Int) + x = o.1.length + q) = (x = q) := propext ⟨fun h => by omega, fun h => by omega⟩
    simp only [a1, a2]; omega
  rw [e, e1]
  split <;> split <;> rfl
theorem isI_sq {b : List Int} (hb : Cyc o b) {q : Int} (hq : Sq o.1.length q) : isI o (sqL o q) b = 0 := by
  rw [isI_f v hb]
  have hr := v.pR.aps hq
  have hu := v.pU.aps hq
  have e : S o.1.length (fun x => aH (sqL o q) x * fH o b x + aV o.1.length (sqL o q) x * fV o b x) = S o.1.length (fun x => (if x = q then fH o b x else 0) - (if x = ap o.2 q then fH o b x else 0) + (if x = ap o.1 q then fV o b x else 0) - (if x = q then fV o b x else 0)) := by
    refine S_congr fun x hx => ?_
    rw [sq_H v hq hx, sq_V v hq hx]
    split <;> split <;> split <;> simp <;> omega
  rw [e, S_sub, S_add, S_sub, S_one hq, S_one hu, S_one hr, S_one hq]
  have hs := Zf_step v hb (v.pR.aps hu)
  rw [comm_ru v hq] at hs
  have h3 := v.pR.inv_ap hq
  have h4 := v.pU.inv_ap hq
  unfold fH fV
  rw [h3, show exc o b (ap o.2 q) = aH b (ap (invL o.1) (ap o.2 q)) + aV o.1.length b (ap (invL o.2) (ap o.2 q)) - aH b (ap o.2 q) - aV o.1.length b (ap o.2 q) from rfl, h4]
  omega
end
theorem rbS_lin {o : Ori} (_v : Valid o) {a a' c : List Int} {k : Int} (h : ∀ i, i < 2 * o.1.length → nth c i = nth a i + k * nth a' i) {j : Nat} : rbS o c o.1.length j = rbS o a o.1.length j + k * rbS o a' o.1.length j := by
  unfold rbS
  rw [← sumTo_mul, ← sumTo_add]
  refine sumTo_congr fun i hi => ?_
  have e1 := h i (by omega)
  have e2 := h ((o.1.length : Int) + i).toNat (by omega)
  rw [e1, e2]
  split <;> split <;> split <;> grind
section
variable {o : Ori} (v : Valid o)
include v
theorem rbS_sq {q : Int} (hq : Sq o.1.length q) {m : Nat} (_hm : m < (vtx o).length) : rbS o (sqL o q) o.1.length m = 0 := by
  have hr := v.pR.aps hq
  have hu := v.pU.aps hq
  have hru := v.pR.aps hu
  have hur := v.pU.aps hr
  have hV : nth (vertL o) (ap o.1 (ap o.2 q)).toNat = nth (vertL o) (ap o.2 (ap o.1 q)).toNat := by
    rw [vert_eq v hru hur, ← comm_ru v hq]
    exact v.pC.orb_ap hru (v.pC.orb_self hru)
  have e : rbS o (sqL o q) o.1.length m = S o.1.length (fun x => (if (m : Int) = nth (vertL o) (ap o.1 x).toNat then (if x = q then 1 else 0) - (if x = ap o.2 q then 1 else 0) else 0) - (if (m : Int) = nth (vertL o) x.toNat then (if x = q then 1 else 0) - (if x = ap o.2 q then 1 else 0) else 0) + (if (m : Int) = nth (vertL o) (ap o.2 x).toNat then (if x = ap o.1 q then 1 else 0) - (if x = q then 1 else 0) else 0) - (if (m : Int) = nth (vertL o) x.toNat then (if x = ap o.1 q then 1 else 0) - (if x = q then 1 else 0) else 0)) := by
    refine sumTo_congr fun i hi => ?_
    have h1 : nth (sqL o q) i = _ := sq_H v hq (Sq.nat hi)
    have h2 : nth (sqL o q) ((o.1.length : Int) + i).toNat = _ := sq_V v hq (Sq.nat hi)
    simp only [h1, h2, ap, Int.toNat_natCast]
    rfl
  rw [e]
  have f1 := S_one hq (f := fun x => (if (m : Int) = nth (vertL o) (ap o.1 x).toNat then (1 : Int) else 0) - (if (m : Int) = nth (vertL o) (ap o.2 x).toNat then 1 else 0))
  have f2 := S_one hu (f := fun x => (if (m : Int) = nth (vertL o) x.toNat then (1 : Int) else 0) - (if (m : Int) = nth (vertL o) (ap o.1 x).toNat then 1 else 0))
  have f3 := S_one hr (f := fun x => (if (m : Int) = nth (vertL o) (ap o.2 x).toNat then (1 : Int) else 0) - (if (m : Int) = nth (vertL o) x.toNat then 1 else 0))
  have g : S o.1.length (fun x => (if (m : Int) = nth (vertL o) (ap o.1 x).toNat then (if x = q then 1 else 0) - (if x = ap o.2 q then 1 else 0) else 0) - (if (m : Int) = nth (vertL o) x.toNat then (if x = q then 1 else 0) - (if x = ap o.2 q then 1 else 0) else 0) + (if (m : Int) = nth (vertL o) (ap o.2 x).toNat then (if x = ap o.1 q then 1 else 0) - (if x = q then 1 else 0) else 0) - (if (m : Int) = nth (vertL o) x.toNat then (if x = ap o.1 q then 1 else 0) - (if x = q then 1 else 0) else 0))
      = S o.1.length (fun x => if x = q then (if (m : Int) = nth (vertL o) (ap o.1 x).toNat then (1 : Int) else 0) - (if (m : Int) = nth (vertL o) (ap o.2 x).toNat then 1 else 0) else 0) + S o.1.length (fun x => if x = ap o.2 q then (if (m : Int) = nth (vertL o) x.toNat then (1 : Int) else 0) - (if (m : Int) = nth (vertL o) (ap o.1 x).toNat then 1 else 0) else 0) + S o.1.length (fun x => if x = ap o.1 q then (if (m : Int) = nth (vertL o) (ap o.2 x).toNat then (1 : Int) else 0) - (if (m : Int) = nth (vertL o) x.toNat then 1 else 0) else 0) := by
    rw [← S_add, ← S_add]
    refine S_congr fun x _ => ?_
    exact six _ _ _ _ _ _
  rw [g, f1, f2, f3, hV]
  omega
end
end Go.Fl
