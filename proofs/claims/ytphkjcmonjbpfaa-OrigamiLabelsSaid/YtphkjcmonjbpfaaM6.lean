/- THE LAW OrigamiLabels HOLDS FOR EVERY INPUT: whatever the arguments, the call returns true, and each argument reads behind it as before. Conditions: those of the given row (its listed variables as the program lays them). -/
import Derived.Test.YtphkjcmonjbpfaaM5
import Derived.OrdersHeld
import Derived.Test.YtphkjcmonjbpfaaRows

/- Contracts: saddles. -/
namespace Go.Fl
open Go Go.Proofs

def eSad : Enc SadT := eC (fun v : SadT => (v.1, v.2.1, v.2.2.1, v.2.2.2.1, v.2.2.2.2.1, v.2.2.2.2.2, ())) (eP eI (eP eI (eP eI (eP eI (eP eI (eP eI eU))))))
instance {v : SadT} : CellsK (kRd eSad v) [kI (v.1), kI (v.2.1), kI (v.2.2.1), kI (v.2.2.2.1), kI (v.2.2.2.2.1), kI (v.2.2.2.2.2)] := inferInstanceAs (CellsK (kRd (eC (fun v : SadT => (v.1, v.2.1, v.2.2.1, v.2.2.2.1, v.2.2.2.2.1, v.2.2.2.2.2, ())) (eP eI (eP eI (eP eI (eP eI (eP eI (eP eI eU))))))) v) _)
instance {v : SadT} {tl : List Know} : EncCells eSad v tl (kI (v.1) :: kI (v.2.1) :: kI (v.2.2.1) :: kI (v.2.2.2.1) :: kI (v.2.2.2.2.1) :: kI (v.2.2.2.2.2) :: tl) := inferInstanceAs (EncCells (eC (fun v : SadT => (v.1, v.2.1, v.2.2.1, v.2.2.2.1, v.2.2.2.2.1, v.2.2.2.2.2, ())) (eP eI (eP eI (eP eI (eP eI (eP eI (eP eI eU))))))) v tl _)
instance {v : SadT} : Norm eSad v (kRd eSad v) := ⟨fun h => h⟩
instance {v : SadT} : FieldP eSad v 0 eI (v.1) 0 := inferInstanceAs (FieldP (eC (fun v : SadT => (v.1, v.2.1, v.2.2.1, v.2.2.2.1, v.2.2.2.2.1, v.2.2.2.2.2, ())) (eP eI (eP eI (eP eI (eP eI (eP eI (eP eI eU))))))) v 0 _ _ _)
instance {v : SadT} : FieldP eSad v 1 eI (v.2.1) 1 := inferInstanceAs (FieldP (eC (fun v : SadT => (v.1, v.2.1, v.2.2.1, v.2.2.2.1, v.2.2.2.2.1, v.2.2.2.2.2, ())) (eP eI (eP eI (eP eI (eP eI (eP eI (eP eI eU))))))) v 1 _ _ _)
instance {v : SadT} : FieldP eSad v 2 eI (v.2.2.1) 2 := inferInstanceAs (FieldP (eC (fun v : SadT => (v.1, v.2.1, v.2.2.1, v.2.2.2.1, v.2.2.2.2.1, v.2.2.2.2.2, ())) (eP eI (eP eI (eP eI (eP eI (eP eI (eP eI eU))))))) v 2 _ _ _)
instance {v : SadT} : FieldP eSad v 3 eI (v.2.2.2.1) 3 := inferInstanceAs (FieldP (eC (fun v : SadT => (v.1, v.2.1, v.2.2.1, v.2.2.2.1, v.2.2.2.2.1, v.2.2.2.2.2, ())) (eP eI (eP eI (eP eI (eP eI (eP eI (eP eI eU))))))) v 3 _ _ _)
instance {v : SadT} : FieldP eSad v 4 eI (v.2.2.2.2.1) 4 := inferInstanceAs (FieldP (eC (fun v : SadT => (v.1, v.2.1, v.2.2.1, v.2.2.2.1, v.2.2.2.2.1, v.2.2.2.2.2, ())) (eP eI (eP eI (eP eI (eP eI (eP eI (eP eI eU))))))) v 4 _ _ _)
instance {v : SadT} : FieldP eSad v 5 eI (v.2.2.2.2.2) 5 := inferInstanceAs (FieldP (eC (fun v : SadT => (v.1, v.2.1, v.2.2.1, v.2.2.2.1, v.2.2.2.2.1, v.2.2.2.2.2, ())) (eP eI (eP eI (eP eI (eP eI (eP eI (eP eI eU))))))) v 5 _ _ _)
instance {ks r : List Know} {a b c d e f : Int} [h : RdOf ks (eP eI (eP eI (eP eI (eP eI (eP eI (eP eI eU)))))) (a, b, c, d, e, f, ()) r] : RdOf ks eSad ((a, b, c, d, e, f)) r := ⟨fun h' => h.imp h'⟩
instance : TyInts Try.prog 62 6 := TyInts.mk' (by kernel_rfl) (by kernel_rfl) (by kernel_rfl) (by kernel_rfl)

theorem sad_cells {J : JV} {cs : List Value} {v : SadT} (h : eSad.rd J cs v) : cs = [v.1, v.2.1, v.2.2.1, v.2.2.2.1, v.2.2.2.2.1, v.2.2.2.2.2].map (Value.int .i64) := by
  obtain ⟨_, _, rfl, rfl, _, _, rfl, rfl, _, _, rfl, rfl, _, _, rfl, rfl, _, _, rfl, rfl, _, _, rfl, rfl, rfl⟩ := h
  rfl

set_option maxRecDepth 100000 in
theorem ct_orders (o : Ori) (v : Valid o) : Ct Try.prog 89 [kRd eO o] (kTup [kRd (eL eI) (ordV o), kRd (eL eI) (vertL o)]) := by
  have hv0 := v.pos
  have hv1 := v.len
  have hv2 := v.le
  have hvl := vtx_le (o := o)
  refine Ct.mk Try.func89 rfl Try.ntmps89 rfl (fun w J => ?_)
  refine Tr.seq ?_
  refine Tr.rg ?_
  refine TrL.new (ok_box 1 rfl (fun _ => rfl) rfl) rfl rfl rfl rfl ?_
  refine TrL.op (ok_assign rfl (fun _ => rfl)) rfl rfl ?_
  refine TrL.op (ok_assign rfl (fun _ => rfl)) rfl rfl ?_
  refine TrL.fin ?_
  refine End.nxt ?_
  refine Tr.seq ?_
  refine Tr.draw 9 mixed (by kernel_rfl) ?_
  refine RunD.op (ok_fldO rfl (fun _ => rfl)) rfl rfl ?_
  refine RunD.op (ok_ldB rfl (fun _ => rfl) rfl) rfl rfl ?_
  refine RunD.op (ok_lenJ rfl (fun _ => rfl)) rfl rfl ?_
  refine RunD.new (ok_makeN eI 11 rfl (fun _ => rfl) rfl (fun _ => rfl) rfl rfl rfl (fun _ => by omega)) rfl rfl rfl rfl ?_
  refine RunD.op (ok_fldO rfl (fun _ => rfl)) rfl rfl ?_
  refine RunD.op (ok_ldB rfl (fun _ => rfl) rfl) rfl rfl ?_
  refine RunD.op (ok_lenJ rfl (fun _ => rfl)) rfl rfl ?_
  refine RunD.new (ok_makeN eI 15 rfl (fun _ => rfl) rfl (fun _ => rfl) rfl rfl rfl (fun _ => by omega)) rfl rfl rfl rfl ?_
  refine RunD.opN (ok_assign rfl (fun _ => rfl)) rfl rfl ?_
  refine RunD.z ?_
  refine TrL.op (ok_assign rfl (fun _ => rfl)) rfl rfl ?_
  refine TrL.fin ?_
  refine End.nxt ?_
  refine Tr.seq ?_
  refine Tr.seq ?_
  refine Tr.rg ?_
  refine TrL.op (ok_ldBS rfl (fun _ => rfl)) rfl rfl ?_
  refine TrL.op (ok_call (fun hp => ct_comm _ v) (.s rfl (fun _ => rfl) rfl <| .nil)) rfl rfl ?_
  refine TrL.op (ok_call (fun hp => ct_cycV o v) (.a rfl (fun _ => rfl) <| .nil)) rfl rfl ?_
  refine TrL.op (ok_lenJ rfl (fun _ => rfl)) rfl rfl ?_
  refine TrL.op (ok_move rfl (fun _ => rfl)) rfl rfl ?_
  refine TrL.fin ?_
  refine End.nxt ?_
  refine Tr.for1 (σ := Nat) [⟨2, true, _, _⟩, ⟨3, true, _, _⟩, ⟨18, true, _, _⟩, ⟨19, true, _, _⟩] [] (fun k => [⟨20, true, [], kI (k : Int)⟩]) (fun k => [⟨11, [], cArr false 3 eI (rowTo (vtx o) (lenM (vtx o)) o.1.length k) o.1.length⟩, ⟨15, [], cArr false 3 eI (vertTo (vtx o) o.1.length k) o.1.length⟩]) (fun k => k ≤ (vtx o).length) (fun k => k = (vtx o).length) (fun k => (vtx o).length - k) (0) (Nat.zero_le _) (Ent.mk (.i rfl (by first | rfl | omega | (simp; done) | (simp; omega) | assumption) <| .k rfl rfl <| .k rfl rfl <| .k rfl rfl <| .k rfl rfl <| .nil) (.a (by rfl) (by first | rfl | omega | (simp; done) | (simp; omega) | assumption) <| .a (by rfl) (by first | rfl | omega | (simp; done) | (simp; omega) | assumption) <| .nil) rfl) ?_ ?_
  · intro k hR0
    refine Tr.norm (S' := [⟨20, true, _, _⟩, ⟨2, true, _, _⟩, ⟨3, true, _, _⟩, ⟨18, true, _, _⟩, ⟨19, true, _, _⟩]) (M' := [⟨11, _, _⟩, ⟨15, _, _⟩]) rfl rfl ?_
    have hrl := fun h => vtx_row_len v (k := k) h
    refine Tr.seq ?_
    refine Tr.rg ?_
    refine TrL.op (ok_lss rfl (fun _ => rfl) rfl (fun _ => rfl)) rfl rfl ?_
    refine TrL.fin ?_
    refine End.nxt ?_
    refine Tr.seq ?_
    refine Tr.cnd rfl ?_ ?_
    · intro h3
      replace h3 := of_decide_eq_true h3
      refine Tr.skip ?_
      refine End.nxt ?_
      refine Tr.seq ?_
      refine Tr.blk ?_
      refine Tr.seq ?_
      refine Tr.rg ?_
      have hrl2 := hrl (by omega)
      refine TrL.op (ok_move rfl (fun _ => rfl)) rfl rfl ?_
      first | refine TrL.op (ok_idxN rfl (fun _ => rfl) rfl (fun _ => rfl) rfl (fun _ => by omega)) rfl rfl ?_ | refine TrL.op (ok_idxP rfl (fun _ => rfl) rfl (fun _ => rfl) rfl (fun _ => by omega)) rfl rfl ?_
      refine TrL.op (ok_ldP rfl (fun _ => rfl) rfl) rfl rfl ?_
      refine TrL.op (ok_assign rfl (fun _ => rfl)) rfl rfl ?_
      refine TrL.op (ok_assign rfl (fun _ => rfl)) rfl rfl ?_
      refine TrL.fin ?_
      refine End.nxt ?_
      refine Tr.seq ?_
      refine Tr.rg ?_
      refine TrL.op (ok_move rfl (fun _ => rfl)) rfl rfl ?_
      refine TrL.op (ok_lenJ rfl (fun _ => rfl)) rfl rfl ?_
      refine TrL.op (ok_move rfl (fun _ => rfl)) rfl rfl ?_
      refine TrL.fin ?_
      refine End.nxt ?_
      refine Tr.for1 (σ := Nat) [⟨2, true, _, _⟩, ⟨3, true, _, _⟩, ⟨4, true, _, _⟩, ⟨5, true, _, _⟩, ⟨18, true, _, _⟩, ⟨19, true, _, _⟩, ⟨20, true, _, _⟩, ⟨25, true, _, _⟩, ⟨26, true, _, _⟩] [] (fun i => [⟨27, true, [], kI (i : Int)⟩]) (fun i => [⟨11, [], cArr false 3 eI (setC (rowTo (vtx o) (lenM (vtx o)) o.1.length k) ((nth (vtx o) k).take i) (lenM (vtx o) k)) o.1.length⟩, ⟨15, [], cArr false 3 eI (setC (vertTo (vtx o) o.1.length k) ((nth (vtx o) k).take i) k) o.1.length⟩]) (fun i => i ≤ (nth (vtx o) k).length) (fun i => i = (nth (vtx o) k).length) (fun i => (nth (vtx o) k).length - i) (0) (Nat.zero_le _) (Ent.mk (.i rfl (by first | rfl | omega | (simp; done) | (simp; omega) | assumption) <| .k rfl rfl <| .k rfl rfl <| .k rfl rfl <| .k rfl rfl <| .k rfl rfl <| .k rfl rfl <| .k rfl rfl <| .k rfl rfl <| .k rfl rfl <| .nil) (.a (by rw [List.take_zero]; rfl) (by first | rfl | omega | (simp; done) | (simp; omega) | assumption) <| .a (by rw [List.take_zero]; rfl) (by first | rfl | omega | (simp; done) | (simp; omega) | assumption) <| .nil) rfl) ?_ ?_
      · intro i hR1
        refine Tr.norm (S' := [⟨27, true, _, _⟩, ⟨2, true, _, _⟩, ⟨3, true, _, _⟩, ⟨4, true, _, _⟩, ⟨5, true, _, _⟩, ⟨18, true, _, _⟩, ⟨19, true, _, _⟩, ⟨20, true, _, _⟩, ⟨25, true, _, _⟩, ⟨26, true, _, _⟩]) (M' := [⟨11, _, _⟩, ⟨15, _, _⟩]) rfl rfl ?_
        refine Tr.seq ?_
        refine Tr.rg ?_
        refine TrL.op (ok_lss rfl (fun _ => rfl) rfl (fun _ => rfl)) rfl rfl ?_
        refine TrL.fin ?_
        refine End.nxt ?_
        refine Tr.seq ?_
        refine Tr.cnd rfl ?_ ?_
        · intro h6
          replace h6 := of_decide_eq_true h6
          refine Tr.skip ?_
          refine End.nxt ?_
          refine Tr.seq ?_
          refine Tr.blk ?_
          refine Tr.seq ?_
          refine Tr.rg ?_
          have hvm := vtx_mem v (i := k) (j := i) (by omega) (by omega)
          first | refine TrL.op (ok_idxN rfl (fun _ => rfl) rfl (fun _ => rfl) rfl (fun _ => by omega)) rfl rfl ?_ | refine TrL.op (ok_idxP rfl (fun _ => rfl) rfl (fun _ => rfl) rfl (fun _ => by omega)) rfl rfl ?_
          refine TrL.op (ok_ldP rfl (fun _ => rfl) rfl) rfl rfl ?_
          refine TrL.op (ok_assign rfl (fun _ => rfl)) rfl rfl ?_
          refine TrL.fin ?_
          refine End.nxt ?_
          refine Tr.rg ?_
          refine TrL.op (ok_move rfl (fun _ => rfl)) rfl rfl ?_
          refine TrL.op (ok_move rfl (fun _ => rfl)) rfl rfl ?_
          refine TrL.op (ok_move rfl (fun _ => rfl)) rfl rfl ?_
          refine TrL.op (ok_move rfl (fun _ => rfl)) rfl rfl ?_
          refine TrL.op (ok_move rfl (fun _ => rfl)) rfl rfl ?_
          refine TrL.op (ok_lenJ rfl (fun _ => rfl)) rfl rfl ?_
          refine TrL.op (ok_sub rfl (fun _ => rfl) rfl (fun _ => rfl) (fun _ => by omega)) rfl rfl ?_
          refine TrL.op (ok_move rfl (fun _ => rfl)) rfl rfl ?_
          first | refine TrL.op (ok_idxEN rfl (fun _ => rfl) rfl (fun _ => rfl) (fun _ => by omega)) rfl rfl ?_ | refine TrL.op (ok_idxE rfl (fun _ => rfl) rfl (fun _ => rfl) (fun _ => by omega)) rfl rfl ?_
          refine TrL.stE rfl rfl rfl rfl rfl ?_
          first | refine TrL.op (ok_idxEN rfl (fun _ => rfl) rfl (fun _ => rfl) (fun _ => by omega)) rfl rfl ?_ | refine TrL.op (ok_idxE rfl (fun _ => rfl) rfl (fun _ => rfl) (fun _ => by omega)) rfl rfl ?_
          refine TrL.stE rfl rfl rfl rfl rfl ?_
          refine TrL.fin ?_
          refine End.blk ?_
          refine End.nxt ?_
          refine Tr.rg ?_
          refine TrL.op (ok_add rfl (fun _ => rfl) rfl (fun _ => rfl) (fun _ => by omega)) rfl rfl ?_
          refine TrL.op (ok_move rfl (fun _ => rfl)) rfl rfl ?_
          refine TrL.fin ?_
          exact End.lp (i + 1) (by first | rfl | omega | (simp; done) | (simp; omega) | assumption) (by omega) (Ent.mk (.i rfl (by first | rfl | omega | (simp; done) | (simp; omega) | assumption) <| .k rfl rfl <| .k rfl rfl <| .k rfl rfl <| .k rfl rfl <| .k rfl rfl <| .k rfl rfl <| .k rfl rfl <| .k rfl rfl <| .k rfl rfl <| .nil) (.a (by rw [take_succ_nth (by omega), setC_snoc]; rfl) (by first | rfl | omega | (simp; done) | (simp; omega) | assumption) <| .a (by rw [take_succ_nth (by omega), setC_snoc]) (by first | rfl | omega | (simp; done) | (simp; omega) | assumption) <| .nil) rfl)
        · intro h6
          replace h6 := Int.not_lt.1 (of_decide_eq_false h6)
          refine Tr.exit ?_
          refine Exs.thn ?_
          refine Exs.thn ?_
          refine Exs.here ?_
          exact End.cut (i) (by omega) (Ent.mk (.i rfl (by first | rfl | omega | (simp; done) | (simp; omega) | assumption) <| .k rfl rfl <| .k rfl rfl <| .k rfl rfl <| .k rfl rfl <| .k rfl rfl <| .k rfl rfl <| .k rfl rfl <| .k rfl rfl <| .k rfl rfl <| .nil) (.a (by first | rfl | omega | (simp; done) | (simp; omega) | assumption) (by first | rfl | omega | (simp; done) | (simp; omega) | assumption) <| .a (by first | rfl | omega | (simp; done) | (simp; omega) | assumption) (by first | rfl | omega | (simp; done) | (simp; omega) | assumption) <| .nil) rfl)
      · rintro _ rfl
        refine End.norm (S' := [⟨27, true, _, _⟩, ⟨2, true, _, _⟩, ⟨3, true, _, _⟩, ⟨4, true, _, _⟩, ⟨5, true, _, _⟩, ⟨18, true, _, _⟩, ⟨19, true, _, _⟩, ⟨20, true, _, _⟩, ⟨25, true, _, _⟩, ⟨26, true, _, _⟩]) (M' := [⟨11, _, _⟩, ⟨15, _, _⟩]) rfl rfl ?_
        refine End.blk ?_
        refine End.nxt ?_
        refine Tr.rg ?_
        refine TrL.op (ok_add rfl (fun _ => rfl) rfl (fun _ => rfl) (fun _ => by omega)) rfl rfl ?_
        refine TrL.op (ok_move rfl (fun _ => rfl)) rfl rfl ?_
        refine TrL.fin ?_
        exact End.lp (k + 1) (by first | rfl | omega | (simp; done) | (simp; omega) | assumption) (by omega) (Ent.mk (.i rfl (by first | rfl | omega | (simp; done) | (simp; omega) | assumption) <| .k rfl rfl <| .k rfl rfl <| .k rfl rfl <| .k rfl rfl <| .nil) (.a (by rw [List.take_length]; rfl) (by first | rfl | omega | (simp; done) | (simp; omega) | assumption) <| .a (by rw [List.take_length]; rfl) (by first | rfl | omega | (simp; done) | (simp; omega) | assumption) <| .nil) rfl)
    · intro h3
      replace h3 := Int.not_lt.1 (of_decide_eq_false h3)
      refine Tr.exit ?_
      refine Exs.thn ?_
      refine Exs.thn ?_
      refine Exs.here ?_
      exact End.cut (k) (by omega) (Ent.mk (.i rfl (by first | rfl | omega | (simp; done) | (simp; omega) | assumption) <| .k rfl rfl <| .k rfl rfl <| .k rfl rfl <| .k rfl rfl <| .nil) (.a (by first | rfl | omega | (simp; done) | (simp; omega) | assumption) (by first | rfl | omega | (simp; done) | (simp; omega) | assumption) <| .a (by first | rfl | omega | (simp; done) | (simp; omega) | assumption) (by first | rfl | omega | (simp; done) | (simp; omega) | assumption) <| .nil) rfl)
  · rintro _ rfl
    refine End.norm (S' := [⟨20, true, _, _⟩, ⟨2, true, _, _⟩, ⟨3, true, _, _⟩, ⟨18, true, _, _⟩, ⟨19, true, _, _⟩]) (M' := [⟨11, _, _⟩, ⟨15, _, _⟩]) rfl rfl ?_
    refine End.nxt ?_
    refine Tr.seq ?_
    refine Tr.rg ?_
    refine TrL.op (ok_move rfl (fun _ => rfl)) rfl rfl ?_
    refine TrL.op (ok_move rfl (fun _ => rfl)) rfl rfl ?_
    refine TrL.op (ok_assign rfl (fun _ => rfl)) rfl rfl ?_
    refine TrL.op (ok_assign rfl (fun _ => rfl)) rfl rfl ?_
    refine TrL.fin ?_
    refine End.nxt ?_
    refine Tr.frz 11 [2] ⟨rfl, trivial⟩ (by simp only [lenMax]; omega) rfl ?_
    refine Tr.frz 15 [3] ⟨rfl, trivial⟩ (by simp only [lenMax]; omega) rfl ?_
    refine Tr.ret ?_
    exact Rts.res (fn := Try.f89) (ts := [2, 3]) rfl rfl (.r rfl (by rfl) <| .r rfl (by rfl) <| .nil)

set_option maxRecDepth 100000 in
theorem ct_rOrder (o : Ori) (x : Int) (v : Valid o) (hx : Sq o.1.length x) : Ct Try.prog 90 [kRd eO o, kI x] (kI (ordF o x)) := by
  have hv0 := v.pos
  have hv1 := v.len
  have hv2 := v.le
  have hps := v.pC.pers hx
  have hol := orb_len (p := comm o) (x := x)
  refine Ct.mk Try.func90 rfl Try.ntmps90 rfl (fun w J => ?_)
  refine Tr.seq ?_
  refine Tr.rg ?_
  refine TrL.new (ok_box 2 rfl (fun _ => rfl) rfl) rfl rfl rfl rfl ?_
  refine TrL.op (ok_assign rfl (fun _ => rfl)) rfl rfl ?_
  refine TrL.fin ?_
  refine End.nxt ?_
  refine Tr.seq ?_
  refine Tr.rg ?_
  refine TrL.op (ok_ldBS rfl (fun _ => rfl)) rfl rfl ?_
  refine TrL.op (ok_call (fun hp => ct_rComm _ v) (.s rfl (fun _ => rfl) rfl <| .nil)) rfl rfl ?_
  refine TrL.op (ok_move rfl (fun _ => rfl)) rfl rfl ?_
  refine TrL.op (ok_call (fun hp => ct_rCycle _ _ _ v.pC hx (by omega)) (.a rfl (fun _ => rfl) <| .a rfl (fun _ => rfl) <| .nil)) rfl rfl ?_
  refine TrL.op (ok_lenJ rfl (fun _ => rfl)) rfl rfl ?_
  refine TrL.op (ok_sub rfl (fun _ => rfl) rfl (fun _ => rfl) (fun _ => by omega)) rfl rfl ?_
  refine TrL.op (ok_assign rfl (fun _ => rfl)) rfl rfl ?_
  refine TrL.fin ?_
  refine End.nxt ?_
  refine Tr.ret ?_
  exact Rts.res1 (fn := Try.f90) rfl (.i rfl (by rfl) <| .nil)

set_option maxRecDepth 100000 in
theorem ct_rVertexOf (o : Ori) (x : Int) (v : Valid o) (hx : Sq o.1.length x) : Ct Try.prog 91 [kRd eO o, kI x] (kI (nth (vertL o) x.toNat)) := by
  have hv0 := v.pos
  have hv1 := v.len
  have hv2 := v.le
  have hvl := vtx_le (o := o)
  refine Ct.mk Try.func91 rfl Try.ntmps91 rfl (fun w J => ?_)
  refine Tr.seq ?_
  refine Tr.rg ?_
  refine TrL.new (ok_box 2 rfl (fun _ => rfl) rfl) rfl rfl rfl rfl ?_
  refine TrL.op (ok_assign rfl (fun _ => rfl)) rfl rfl ?_
  refine TrL.fin ?_
  refine End.nxt ?_
  refine Tr.seq ?_
  refine Tr.rg ?_
  refine TrL.op (ok_ldBS rfl (fun _ => rfl)) rfl rfl ?_
  refine TrL.op (ok_call (fun hp => ct_rVertices _ v) (.s rfl (fun _ => rfl) rfl <| .nil)) rfl rfl ?_
  refine TrL.op (ok_assign rfl (fun _ => rfl)) rfl rfl ?_
  refine TrL.fin ?_
  refine End.nxt ?_
  refine Tr.seq ?_
  refine Tr.seq ?_
  refine Tr.rg ?_
  refine TrL.op (ok_assign rfl (fun _ => rfl)) rfl rfl ?_
  refine TrL.fin ?_
  refine End.nxt ?_
  refine Tr.for1 (σ := Nat) [⟨1, true, _, _⟩, ⟨5, true, _, _⟩] [] (fun k => [⟨6, true, [], kI (k : Int)⟩]) (fun k => []) (fun k => k ≤ (vtx o).length ∧ ∀ i, i < k → x ∉ nth (vtx o) i) (fun k => ∀ i, i < (vtx o).length → x ∉ nth (vtx o) i) (fun k => (vtx o).length - k) (0) ⟨Nat.zero_le _, fun i h => absurd h (by omega)⟩ (Ent.mk (.i rfl (by first | rfl | omega | (simp; done) | (simp; omega) | assumption) <| .k rfl rfl <| .k rfl rfl <| .nil) (.nil) rfl) ?_ ?_
  · rintro k ⟨hk0, hR0⟩
    refine Tr.norm (S' := [⟨6, true, _, _⟩, ⟨1, true, _, _⟩, ⟨5, true, _, _⟩]) (M' := []) rfl rfl ?_
    refine Tr.seq ?_
    refine Tr.seq ?_
    refine Tr.rg ?_
    refine TrL.op (ok_move rfl (fun _ => rfl)) rfl rfl ?_
    refine TrL.op (ok_move rfl (fun _ => rfl)) rfl rfl ?_
    refine TrL.op (ok_lenJ rfl (fun _ => rfl)) rfl rfl ?_
    refine TrL.op (ok_lss rfl (fun _ => rfl) rfl (fun _ => rfl)) rfl rfl ?_
    refine TrL.fin ?_
    refine End.nxt ?_
    refine Tr.cnd rfl ?_ ?_
    · intro h3
      replace h3 := of_decide_eq_true h3
      refine Tr.skip ?_
      refine End.nxt ?_
      refine Tr.seq ?_
      refine Tr.blk ?_
      refine Tr.seq ?_
      refine Tr.rg ?_
      refine TrL.op (ok_move rfl (fun _ => rfl)) rfl rfl ?_
      refine TrL.op (ok_move rfl (fun _ => rfl)) rfl rfl ?_
      first | refine TrL.op (ok_idxN rfl (fun _ => rfl) rfl (fun _ => rfl) rfl (fun _ => by omega)) rfl rfl ?_ | refine TrL.op (ok_idxP rfl (fun _ => rfl) rfl (fun _ => rfl) rfl (fun _ => by omega)) rfl rfl ?_
      refine TrL.op (ok_ldP rfl (fun _ => rfl) rfl) rfl rfl ?_
      refine TrL.op (ok_move rfl (fun _ => rfl)) rfl rfl ?_
      refine TrL.op (ok_call (fun hp => ct_rAt _ _) (.a rfl (fun _ => rfl) <| .a rfl (fun _ => rfl) <| .nil)) rfl rfl ?_
      refine TrL.op (ok_geq rfl (fun _ => rfl) rfl (fun _ => rfl)) rfl rfl ?_
      refine TrL.fin ?_
      refine End.nxt ?_
      refine Tr.cnd rfl ?_ ?_
      · intro h5
        replace h5 := of_decide_eq_true h5
        refine Tr.seq ?_
        refine Tr.rg ?_
        refine TrL.op (ok_move rfl (fun _ => rfl)) rfl rfl ?_
        refine TrL.op (ok_assign rfl (fun _ => rfl)) rfl rfl ?_
        refine TrL.fin ?_
        refine End.nxt ?_
        refine Tr.ret ?_
        refine Rts.out ?_
        refine Rts.thn ?_
        refine Rts.thn ?_
        refine Rts.out ?_
        refine Rts.thn ?_
        refine Rts.thn ?_
        exact Rts.res1 (fn := Try.f91) rfl (.i rfl (nth_vertL v hx (by omega) (Classical.not_not.1 (fun hh => absurd (atL_neg.2 hh) (by omega)))).symm <| .nil)
      · intro h5
        replace h5 := Int.not_le.1 (of_decide_eq_false h5)
        refine Tr.skip ?_
        refine End.blk ?_
        refine End.nxt ?_
        refine Tr.rg ?_
        refine TrL.op (ok_move rfl (fun _ => rfl)) rfl rfl ?_
        refine TrL.op (ok_add rfl (fun _ => rfl) rfl (fun _ => rfl) (fun _ => by omega)) rfl rfl ?_
        refine TrL.op (ok_assign rfl (fun _ => rfl)) rfl rfl ?_
        refine TrL.fin ?_
        exact End.lp (k + 1) ⟨by omega, all_succ hR0 (atL_neg.1 h5)⟩ (by omega) (Ent.mk (.i rfl (by first | rfl | omega | (simp; done) | (simp; omega) | assumption) <| .k rfl rfl <| .k rfl rfl <| .nil) (.nil) rfl)
    · intro h3
      replace h3 := Int.not_lt.1 (of_decide_eq_false h3)
      refine Tr.exit ?_
      refine Exs.thn ?_
      refine Exs.thn ?_
      refine Exs.here ?_
      exact End.cut (k) (fun i hi => hR0 i (by omega)) (Ent.mk (.i rfl (by first | rfl | omega | (simp; done) | (simp; omega) | assumption) <| .k rfl rfl <| .k rfl rfl <| .nil) (.nil) rfl)
  · intro k hE0
    refine End.norm (S' := [⟨6, true, _, _⟩, ⟨1, true, _, _⟩, ⟨5, true, _, _⟩]) (M' := []) rfl rfl ?_
    refine End.nxt ?_
    refine Tr.seq ?_
    refine Tr.rg ?_
    refine TrL.op (ok_assign rfl (fun _ => rfl)) rfl rfl ?_
    refine TrL.fin ?_
    refine End.nxt ?_
    refine Tr.ret ?_
    exact Rts.res1 (fn := Try.f91) rfl (.i rfl (vof_not v hx hE0).elim <| .nil)

set_option maxRecDepth 100000 in
set_option maxHeartbeats 1000000 in
theorem ct_oSaddles (o : Ori) : Ct Try.prog 42 [kRd eO o] (kTup [kRd (eL eSad) (if chkO o = 0 then sadL o o.1.length else []), kI (chkO o)]) := by
  refine Ct.mk Try.func42 rfl Try.ntmps42 rfl (fun w J => ?_)
  refine Tr.seq ?_
  refine Tr.rg ?_
  refine TrL.new (ok_box 1 rfl (fun _ => rfl) rfl) rfl rfl rfl rfl ?_
  refine TrL.op (ok_assign rfl (fun _ => rfl)) rfl rfl ?_
  refine TrL.op (ok_assign rfl (fun _ => rfl)) rfl rfl ?_
  refine TrL.fin ?_
  refine End.nxt ?_
  refine Tr.seq ?_
  refine Tr.seq ?_
  refine Tr.rg ?_
  refine TrL.op (ok_ldBS rfl (fun _ => rfl)) rfl rfl ?_
  refine TrL.op (ok_call (fun hp => ct_oCheck _) (.s rfl (fun _ => rfl) rfl <| .nil)) rfl rfl ?_
  refine TrL.op (ok_assign rfl (fun _ => rfl)) rfl rfl ?_
  refine TrL.fin ?_
  refine End.nxt ?_
  refine Tr.seq ?_
  refine Tr.rg ?_
  refine TrL.op (ok_move rfl (fun _ => rfl)) rfl rfl ?_
  refine TrL.op (ok_neq rfl (fun _ => rfl) rfl (fun _ => rfl)) rfl rfl ?_
  refine TrL.fin ?_
  refine End.nxt ?_
  refine Tr.cnd rfl ?_ ?_
  · intro h2
    replace h2 := of_decide_eq_true h2
    refine Tr.seq ?_
    refine Tr.rg ?_
    refine TrL.op (ok_move rfl (fun _ => rfl)) rfl rfl ?_
    refine TrL.op (ok_assign rfl (fun _ => rfl)) rfl rfl ?_
    refine TrL.op (ok_assign rfl (fun _ => rfl)) rfl rfl ?_
    refine TrL.fin ?_
    refine End.nxt ?_
    refine Tr.ret ?_
    refine Rts.thn ?_
    exact Rts.res (fn := Try.f42) (ts := [2, 3]) rfl rfl (.n rfl (by rw [if_neg h2]) <| .i rfl (by first | rfl | omega | (simp; done) | (simp; omega) | assumption) <| .nil)
  · intro h2
    replace h2 := Classical.not_not.1 (of_decide_eq_false h2)
    have v : Valid o := valid_of h2
    have hv0 := v.pos
    have hv1 := v.len
    have hv2 := v.le
    have hoL : (ordV o).length = o.1.length := rowTo_len
    have hvL := vertL_len (o := o)
    have hiL := invL_len o.2
    have hR := v.pR
    have hU := v.pU
    refine Tr.skip ?_
    refine End.nxt ?_
    refine Tr.seq ?_
    refine Tr.rg ?_
    refine TrL.op (ok_ldBS rfl (fun _ => rfl)) rfl rfl ?_
    refine TrL.op (ok_call (fun hp => ct_orders _ v) (.s rfl (fun _ => rfl) rfl <| .nil)) rfl rfl ?_
    refine TrL.op (ok_move rfl (fun _ => rfl)) rfl rfl ?_
    refine TrL.op (ok_ext rfl (fun _ => rfl) rfl) rfl rfl ?_
    refine TrL.op (ok_ext rfl (fun _ => rfl) rfl) rfl rfl ?_
    refine TrL.op (ok_assign rfl (fun _ => rfl)) rfl rfl ?_
    refine TrL.op (ok_assign rfl (fun _ => rfl)) rfl rfl ?_
    refine TrL.fin ?_
    refine End.nxt ?_
    refine Tr.seq ?_
    refine Tr.rg ?_
    refine TrL.op (ok_fldO rfl (fun _ => rfl)) rfl rfl ?_
    refine TrL.op (ok_ldB rfl (fun _ => rfl) rfl) rfl rfl ?_
    refine TrL.op (ok_call (fun hp => ct_oinv _ v.l2 v.r2) (.a rfl (fun _ => rfl) <| .nil)) rfl rfl ?_
    refine TrL.op (ok_assign rfl (fun _ => rfl)) rfl rfl ?_
    refine TrL.fin ?_
    refine End.nxt ?_
    refine Tr.seq ?_
    refine Tr.rg ?_
    refine TrL.new (ok_makeMap 28) rfl rfl rfl rfl ?_
    refine TrL.op (ok_assign rfl (fun _ => rfl)) rfl rfl ?_
    refine TrL.fin ?_
    refine End.nxt ?_
    refine Tr.seq ?_
    refine Tr.seq ?_
    refine Tr.rg ?_
    refine TrL.op (ok_fldO rfl (fun _ => rfl)) rfl rfl ?_
    refine TrL.op (ok_ldB rfl (fun _ => rfl) rfl) rfl rfl ?_
    refine TrL.op (ok_lenJ rfl (fun _ => rfl)) rfl rfl ?_
    refine TrL.op (ok_move rfl (fun _ => rfl)) rfl rfl ?_
    refine TrL.fin ?_
    refine End.nxt ?_
    refine Tr.for1 (σ := Nat) [⟨1, true, _, _⟩, ⟨5, true, _, _⟩, ⟨6, true, _, _⟩, ⟨7, true, _, _⟩, ⟨8, true, _, _⟩, ⟨31, true, _, _⟩] [⟨1, _, _⟩] (fun k => [⟨32, true, [], kI (k : Int)⟩]) (fun k => [⟨28, [], cMapI (sqL o k) (sqs (sqL o k).length)⟩]) (fun k => k ≤ o.1.length) (fun k => k = o.1.length) (fun k => o.1.length - k) (0) (Nat.zero_le _) (Ent.mk (.i rfl (by first | rfl | omega | (simp; done) | (simp; omega) | assumption) <| .k rfl rfl <| .k rfl rfl <| .k rfl rfl <| .k rfl rfl <| .k rfl rfl <| .k rfl rfl <| .nil) (.conv (fun _ _ _ h => ⟨rfl, h⟩) rfl <| .k rfl <| .nil) rfl) ?_ ?_
    · intro k hR0
      refine Tr.norm (S' := [⟨32, true, _, _⟩, ⟨1, true, _, _⟩, ⟨5, true, _, _⟩, ⟨6, true, _, _⟩, ⟨7, true, _, _⟩, ⟨8, true, _, _⟩, ⟨31, true, _, _⟩]) (M' := [⟨28, _, _⟩, ⟨1, _, _⟩]) rfl rfl ?_
      refine Tr.seq ?_
      refine Tr.rg ?_
      refine TrL.op (ok_lss rfl (fun _ => rfl) rfl (fun _ => rfl)) rfl rfl ?_
      refine TrL.fin ?_
      refine End.nxt ?_
      refine Tr.seq ?_
      refine Tr.cnd rfl ?_ ?_
      · intro h8
        replace h8 := of_decide_eq_true h8
        have hks : Sq o.1.length (k : Int) := Sq.nat (by omega)
        have hok : nth (ordV o) k = ordF o k := nth_ordV v hks
        refine Tr.skip ?_
        refine End.nxt ?_
        refine Tr.seq ?_
        refine Tr.blk ?_
        refine Tr.seq ?_
        refine Tr.rg ?_
        refine TrL.op (ok_move rfl (fun _ => rfl)) rfl rfl ?_
        refine TrL.op (ok_assign rfl (fun _ => rfl)) rfl rfl ?_
        refine TrL.fin ?_
        refine End.nxt ?_
        refine Tr.seq ?_
        refine Tr.rg ?_
        refine TrL.op (ok_move rfl (fun _ => rfl)) rfl rfl ?_
        refine TrL.op (ok_move rfl (fun _ => rfl)) rfl rfl ?_
        first | refine TrL.op (ok_idxN rfl (fun _ => rfl) rfl (fun _ => rfl) rfl (fun _ => by omega)) rfl rfl ?_ | refine TrL.op (ok_idxP rfl (fun _ => rfl) rfl (fun _ => rfl) rfl (fun _ => by omega)) rfl rfl ?_
        refine TrL.op (ok_ldP rfl (fun _ => rfl) rfl) rfl rfl ?_
        refine TrL.op (ok_gtr rfl (fun _ => rfl) rfl (fun _ => rfl)) rfl rfl ?_
        refine TrL.fin ?_
        refine End.nxt ?_
        refine Tr.cnd rfl ?_ ?_
        · intro h10
          replace h10 := of_decide_eq_true h10
          have hkp : 0 < ordF o k := by omega
          refine Tr.rg ?_
          refine TrL.op (ok_move rfl (fun _ => rfl)) rfl rfl ?_
          refine TrL.op (ok_move rfl (fun _ => rfl)) rfl rfl ?_
          refine TrL.op (ok_move rfl (fun _ => rfl)) rfl rfl ?_
          refine TrL.op (ok_lenMI rfl (fun _ => rfl)) rfl rfl ?_
          refine TrL.updI rfl rfl rfl (fun q => by simp [MapKept.IsKey]) (fun hh => by have := (mem_sqL.1 hh).1.2; omega) ?_
          refine TrL.fin ?_
          refine End.blk ?_
          refine End.nxt ?_
          refine Tr.rg ?_
          refine TrL.op (ok_add rfl (fun _ => rfl) rfl (fun _ => rfl) (fun _ => by omega)) rfl rfl ?_
          refine TrL.op (ok_move rfl (fun _ => rfl)) rfl rfl ?_
          refine TrL.fin ?_
          exact End.lp (k + 1) (by first | rfl | omega | (simp; done) | (simp; omega) | assumption) (by omega) (Ent.mk (.i rfl (by first | rfl | omega | (simp; done) | (simp; omega) | assumption) <| .k rfl rfl <| .k rfl rfl <| .k rfl rfl <| .k rfl rfl <| .k rfl rfl <| .k rfl rfl <| .nil) (.e (by rw [sqL_in hkp, List.length_append, List.length_singleton, sqs_succ]) rfl <| .k rfl <| .nil) rfl)
        · intro h10
          replace h10 := Int.not_lt.1 (of_decide_eq_false h10)
          have hkp : ¬ 0 < ordF o k := by omega
          refine Tr.skip ?_
          refine End.blk ?_
          refine End.nxt ?_
          refine Tr.rg ?_
          refine TrL.op (ok_add rfl (fun _ => rfl) rfl (fun _ => rfl) (fun _ => by omega)) rfl rfl ?_
          refine TrL.op (ok_move rfl (fun _ => rfl)) rfl rfl ?_
          refine TrL.fin ?_
          exact End.lp (k + 1) (by first | rfl | omega | (simp; done) | (simp; omega) | assumption) (by omega) (Ent.mk (.i rfl (by first | rfl | omega | (simp; done) | (simp; omega) | assumption) <| .k rfl rfl <| .k rfl rfl <| .k rfl rfl <| .k rfl rfl <| .k rfl rfl <| .k rfl rfl <| .nil) (.e (by rw [sqL_out hkp]) rfl <| .k rfl <| .nil) rfl)
      · intro h8
        replace h8 := Int.not_lt.1 (of_decide_eq_false h8)
        refine Tr.exit ?_
        refine Exs.thn ?_
        refine Exs.thn ?_
        refine Exs.here ?_
        exact End.cut (k) (by omega) (Ent.mk (.i rfl (by first | rfl | omega | (simp; done) | (simp; omega) | assumption) <| .k rfl rfl <| .k rfl rfl <| .k rfl rfl <| .k rfl rfl <| .k rfl rfl <| .k rfl rfl <| .nil) (.k rfl <| .k rfl <| .nil) rfl)
    · rintro _ rfl
      refine End.norm (S' := [⟨32, true, _, _⟩, ⟨1, true, _, _⟩, ⟨5, true, _, _⟩, ⟨6, true, _, _⟩, ⟨7, true, _, _⟩, ⟨8, true, _, _⟩, ⟨31, true, _, _⟩]) (M' := [⟨28, _, _⟩, ⟨1, _, _⟩]) rfl rfl ?_
      refine End.nxt ?_
      refine Tr.seq ?_
      refine Tr.rg ?_
      refine TrL.op (ok_assign rfl (fun _ => rfl)) rfl rfl ?_
      refine TrL.fin ?_
      refine End.nxt ?_
      refine Tr.seq ?_
      refine Tr.seq ?_
      refine Tr.rg ?_
      refine TrL.op (ok_fldO rfl (fun _ => rfl)) rfl rfl ?_
      refine TrL.op (ok_ldB rfl (fun _ => rfl) rfl) rfl rfl ?_
      refine TrL.op (ok_lenJ rfl (fun _ => rfl)) rfl rfl ?_
      refine TrL.op (ok_move rfl (fun _ => rfl)) rfl rfl ?_
      refine TrL.fin ?_
      refine End.nxt ?_
      refine Tr.grow (s := 10) rfl rfl 10 rfl 62 eSad rfl ?_
      refine Tr.for1 (σ := Nat) [⟨1, true, _, _⟩, ⟨5, true, _, _⟩, ⟨6, true, _, _⟩, ⟨7, true, _, _⟩, ⟨8, true, _, _⟩, ⟨47, true, _, _⟩] [⟨1, _, _⟩, ⟨28, _, _⟩] (fun k => [⟨10, true, [10], kOsl 10 (sadL o k).length⟩, ⟨48, true, [], kI (k : Int)⟩]) (fun k => [⟨10, [], cArr true 62 eSad (sadL o k) (sadL o k).length⟩]) (fun k => k ≤ o.1.length) (fun k => k = o.1.length) (fun k => o.1.length - k) (0) (Nat.zero_le _) (Ent.mk (.o rfl (by first | rfl | omega | (simp; done) | (simp; omega) | assumption) rfl <| .i rfl (by first | rfl | omega | (simp; done) | (simp; omega) | assumption) <| .k rfl rfl <| .k rfl rfl <| .k rfl rfl <| .k rfl rfl <| .k rfl rfl <| .k rfl rfl <| .nil) (.a (by rfl) (by first | rfl | omega | (simp; done) | (simp; omega) | assumption) <| .k rfl <| .k rfl <| .nil) rfl) ?_ ?_
      · intro k hR1
        refine Tr.norm (S' := [⟨10, true, _, _⟩, ⟨48, true, _, _⟩, ⟨1, true, _, _⟩, ⟨5, true, _, _⟩, ⟨6, true, _, _⟩, ⟨7, true, _, _⟩, ⟨8, true, _, _⟩, ⟨47, true, _, _⟩]) (M' := [⟨10, _, _⟩, ⟨1, _, _⟩, ⟨28, _, _⟩]) rfl rfl ?_
        have hsl := sadL_len (o := o) (k := k)
        refine Tr.seq ?_
        refine Tr.rg ?_
        refine TrL.op (ok_lss rfl (fun _ => rfl) rfl (fun _ => rfl)) rfl rfl ?_
        refine TrL.fin ?_
        refine End.nxt ?_
        refine Tr.seq ?_
        refine Tr.cnd rfl ?_ ?_
        · intro h15
          replace h15 := of_decide_eq_true h15
          have hks : Sq o.1.length (k : Int) := Sq.nat (by omega)
          have hok : nth (ordV o) k = ordF o k := nth_ordV v hks
          have hnn := ordF_nonneg v hks
          refine Tr.skip ?_
          refine End.nxt ?_
          refine Tr.seq ?_
          refine Tr.blk ?_
          refine Tr.seq ?_
          refine Tr.rg ?_
          refine TrL.op (ok_move rfl (fun _ => rfl)) rfl rfl ?_
          refine TrL.op (ok_assign rfl (fun _ => rfl)) rfl rfl ?_
          refine TrL.fin ?_
          refine End.nxt ?_
          refine Tr.seq ?_
          refine Tr.seq ?_
          refine Tr.rg ?_
          refine TrL.op (ok_move rfl (fun _ => rfl)) rfl rfl ?_
          refine TrL.op (ok_move rfl (fun _ => rfl)) rfl rfl ?_
          first | refine TrL.op (ok_idxN rfl (fun _ => rfl) rfl (fun _ => rfl) rfl (fun _ => by omega)) rfl rfl ?_ | refine TrL.op (ok_idxP rfl (fun _ => rfl) rfl (fun _ => rfl) rfl (fun _ => by omega)) rfl rfl ?_
          refine TrL.op (ok_ldP rfl (fun _ => rfl) rfl) rfl rfl ?_
          refine TrL.op (ok_eql rfl (fun _ => rfl) rfl (fun _ => rfl)) rfl rfl ?_
          refine TrL.fin ?_
          refine End.nxt ?_
          refine Tr.cnd rfl ?_ ?_
          · intro h17
            replace h17 := of_decide_eq_true h17
            have hkp : ¬ 0 < ordF o k := by omega
            refine Tr.exit ?_
            refine Exs.thn ?_
            refine Exs.here ?_
            refine End.nxt ?_
            refine Tr.rg ?_
            refine TrL.op (ok_add rfl (fun _ => rfl) rfl (fun _ => rfl) (fun _ => by omega)) rfl rfl ?_
            refine TrL.op (ok_move rfl (fun _ => rfl)) rfl rfl ?_
            refine TrL.fin ?_
            exact End.lp (k + 1) (by first | rfl | omega | (simp; done) | (simp; omega) | assumption) (by omega) (Ent.mk (.o rfl (by rw [sadL_out hkp]) rfl <| .i rfl (by first | rfl | omega | (simp; done) | (simp; omega) | assumption) <| .k rfl rfl <| .k rfl rfl <| .k rfl rfl <| .k rfl rfl <| .k rfl rfl <| .k rfl rfl <| .nil) (.a (by rw [sadL_out hkp]) (by rw [sadL_out hkp]) <| .k rfl <| .k rfl <| .nil) rfl)
          · intro h17
            replace h17 := of_decide_eq_false h17
            have hkp : 0 < ordF o k := by omega
            obtain ⟨hs1, hs2, hs3, hs4⟩ := sadN_spec v hks hkp
            obtain ⟨hm1, hm2⟩ := sad_mem v hks hkp
            refine Tr.skip ?_
            refine End.nxt ?_
            refine Tr.seq ?_
            refine Tr.rg ?_
            refine TrL.op (ok_move rfl (fun _ => rfl)) rfl rfl ?_
            refine TrL.op (ok_assign rfl (fun _ => rfl)) rfl rfl ?_
            refine TrL.op (ok_assign rfl (fun _ => rfl)) rfl rfl ?_
            refine TrL.fin ?_
            refine End.nxt ?_
            refine Tr.for (σ := Nat) [⟨1, true, _, _⟩, ⟨5, true, _, _⟩, ⟨6, true, _, _⟩, ⟨7, true, _, _⟩, ⟨8, true, _, _⟩, ⟨10, true, _, _⟩, ⟨11, true, _, _⟩, ⟨47, true, _, _⟩, ⟨48, true, _, _⟩] [⟨1, _, _⟩, ⟨28, _, _⟩, ⟨10, _, _⟩] (fun m => [⟨12, true, [], kI (it o.1 (m - 1) k)⟩, ⟨13, true, [], kI (m : Int)⟩]) (fun m => []) (fun m => 1 ≤ m ∧ m ≤ sadN o k) (fun m => m = sadN o k) (fun m => sadN o k - m) (1) ⟨Nat.le_refl _, hs2⟩ (Ent.mk (.i rfl (by rfl) <| .i rfl (by first | rfl | omega | (simp; done) | (simp; omega) | assumption) <| .k rfl rfl <| .k rfl rfl <| .k rfl rfl <| .k rfl rfl <| .k rfl rfl <| .k rfl rfl <| .k rfl rfl <| .k rfl rfl <| .k rfl rfl <| .nil) (.k rfl <| .k rfl <| .k rfl <| .nil) rfl) ?_ ?_
            · rintro m ⟨hm0, hml⟩
              refine Tr.norm (S' := [⟨12, true, _, _⟩, ⟨13, true, _, _⟩, ⟨1, true, _, _⟩, ⟨5, true, _, _⟩, ⟨6, true, _, _⟩, ⟨7, true, _, _⟩, ⟨8, true, _, _⟩, ⟨10, true, _, _⟩, ⟨11, true, _, _⟩, ⟨47, true, _, _⟩, ⟨48, true, _, _⟩]) (M' := [⟨1, _, _⟩, ⟨28, _, _⟩, ⟨10, _, _⟩]) rfl rfl ?_
              have hq := hR.its hks (m - 1)
              have hq0 := hq.1
              have hq1 := hq.2
              have hnx : nth o.1 (it o.1 (m - 1) k).toNat = it o.1 m k := (by (obtain ⟨r, rfl⟩ : ∃ r, m = r + 1 := ⟨m - 1, by omega⟩); rfl)
              have hqm := hR.its hks m
              have hon : nth (ordV o) (nth o.1 (it o.1 (m - 1) k).toNat).toNat = ordF o (it o.1 m k) := by rw [hnx]; exact nth_ordV v hqm
              have hqr : 0 ≤ nth o.1 (it o.1 (m - 1) k).toNat ∧ nth o.1 (it o.1 (m - 1) k).toNat < o.1.length := by rw [hnx]; exact hqm
              refine Tr.seq ?_
              refine Tr.seq ?_
              refine Tr.rg ?_
              refine TrL.op (ok_move rfl (fun _ => rfl)) rfl rfl ?_
              refine TrL.op (ok_fldO rfl (fun _ => rfl)) rfl rfl ?_
              refine TrL.op (ok_ldB rfl (fun _ => rfl) rfl) rfl rfl ?_
              refine TrL.op (ok_move rfl (fun _ => rfl)) rfl rfl ?_
              first | refine TrL.op (ok_idxN rfl (fun _ => rfl) rfl (fun _ => rfl) rfl (fun _ => by omega)) rfl rfl ?_ | refine TrL.op (ok_idxP rfl (fun _ => rfl) rfl (fun _ => rfl) rfl (fun _ => by omega)) rfl rfl ?_
              refine TrL.op (ok_ldP rfl (fun _ => rfl) rfl) rfl rfl ?_
              first | refine TrL.op (ok_idxN rfl (fun _ => rfl) rfl (fun _ => rfl) rfl (fun _ => by omega)) rfl rfl ?_ | refine TrL.op (ok_idxP rfl (fun _ => rfl) rfl (fun _ => rfl) rfl (fun _ => by omega)) rfl rfl ?_
              refine TrL.op (ok_ldP rfl (fun _ => rfl) rfl) rfl rfl ?_
              refine TrL.op (ok_eql rfl (fun _ => rfl) rfl (fun _ => rfl)) rfl rfl ?_
              refine TrL.fin ?_
              refine End.nxt ?_
              refine Tr.cnd rfl ?_ ?_
              · intro h19
                replace h19 := of_decide_eq_true h19
                have hone := (sadN_at v hks hkp hm0 hml).1 (by rw [← hon]; exact h19)
                refine Tr.skip ?_
                refine End.nxt ?_
                refine Tr.blk ?_
                refine Tr.seq ?_
                refine Tr.rg ?_
                refine TrL.op (ok_fldO rfl (fun _ => rfl)) rfl rfl ?_
                refine TrL.op (ok_ldB rfl (fun _ => rfl) rfl) rfl rfl ?_
                refine TrL.op (ok_move rfl (fun _ => rfl)) rfl rfl ?_
                first | refine TrL.op (ok_idxN rfl (fun _ => rfl) rfl (fun _ => rfl) rfl (fun _ => by omega)) rfl rfl ?_ | refine TrL.op (ok_idxP rfl (fun _ => rfl) rfl (fun _ => rfl) rfl (fun _ => by omega)) rfl rfl ?_
                refine TrL.op (ok_ldP rfl (fun _ => rfl) rfl) rfl rfl ?_
                refine TrL.op (ok_assign rfl (fun _ => rfl)) rfl rfl ?_
                refine TrL.fin ?_
                refine End.nxt ?_
                refine Tr.rg ?_
                refine TrL.op (ok_move rfl (fun _ => rfl)) rfl rfl ?_
                refine TrL.op (ok_add rfl (fun _ => rfl) rfl (fun _ => rfl) (fun _ => by omega)) rfl rfl ?_
                refine TrL.op (ok_assign rfl (fun _ => rfl)) rfl rfl ?_
                refine TrL.fin ?_
                refine End.blk ?_
                exact End.lp (m + 1) ⟨by omega, hone⟩ (by omega) (Ent.mk (.i rfl (by rw [hnx]; rfl) <| .i rfl (by first | rfl | omega | (simp; done) | (simp; omega) | assumption) <| .k rfl rfl <| .k rfl rfl <| .k rfl rfl <| .k rfl rfl <| .k rfl rfl <| .k rfl rfl <| .k rfl rfl <| .k rfl rfl <| .k rfl rfl <| .nil) (.k rfl <| .k rfl <| .k rfl <| .nil) rfl)
              · intro h19
                replace h19 := of_decide_eq_false h19
                have hone := (sadN_at v hks hkp hm0 hml).2 (by rw [← hon]; exact h19)
                refine Tr.exit ?_
                refine Exs.thn ?_
                refine Exs.thn ?_
                refine Exs.here ?_
                exact End.cut (m) hone (Ent.mk (.i rfl (by first | rfl | omega | (simp; done) | (simp; omega) | assumption) <| .i rfl (by first | rfl | omega | (simp; done) | (simp; omega) | assumption) <| .k rfl rfl <| .k rfl rfl <| .k rfl rfl <| .k rfl rfl <| .k rfl rfl <| .k rfl rfl <| .k rfl rfl <| .k rfl rfl <| .k rfl rfl <| .nil) (.k rfl <| .k rfl <| .k rfl <| .nil) rfl)
            · rintro _ rfl
              refine Tr.norm (S' := [⟨12, true, _, _⟩, ⟨13, true, _, _⟩, ⟨1, true, _, _⟩, ⟨5, true, _, _⟩, ⟨6, true, _, _⟩, ⟨7, true, _, _⟩, ⟨8, true, _, _⟩, ⟨10, true, _, _⟩, ⟨11, true, _, _⟩, ⟨47, true, _, _⟩, ⟨48, true, _, _⟩]) (M' := [⟨1, _, _⟩, ⟨28, _, _⟩, ⟨10, _, _⟩]) rfl rfl ?_
              have hq := hR.its hks (sadN o k - 1)
              have hq0 := hq.1
              have hq1 := hq.2
              have hnx : nth o.1 (it o.1 (sadN o k - 1) k).toNat = it o.1 (sadN o k) k := (by (obtain ⟨r, hr⟩ : ∃ r, sadN o k = r + 1 := ⟨sadN o k - 1, by omega⟩); rw [hr]; rfl)
              have hqm := hR.its hks (sadN o k)
              have hqr : 0 ≤ nth o.1 (it o.1 (sadN o k - 1) k).toNat ∧ nth o.1 (it o.1 (sadN o k - 1) k).toNat < o.1.length := by rw [hnx]; exact hqm
              have hd : 0 ≤ nth (invL o.2) (it o.1 (sadN o k - 1) k).toNat ∧ nth (invL o.2) (it o.1 (sadN o k - 1) k).toNat < o.1.length := hU.inv.aps hq
              have hd2 := v.ri (i := (nth (invL o.2) (it o.1 (sadN o k - 1) k).toNat).toNat) (by omega)
              have hd3 := v.ui (i := (nth o.1 (nth (invL o.2) (it o.1 (sadN o k - 1) k).toNat).toNat).toNat) (by omega)
              refine Tr.seq ?_
              refine Tr.rg ?_
              refine TrL.op (ok_fldO rfl (fun _ => rfl)) rfl rfl ?_
              refine TrL.op (ok_ldB rfl (fun _ => rfl) rfl) rfl rfl ?_
              refine TrL.op (ok_move rfl (fun _ => rfl)) rfl rfl ?_
              first | refine TrL.op (ok_idxN rfl (fun _ => rfl) rfl (fun _ => rfl) rfl (fun _ => by omega)) rfl rfl ?_ | refine TrL.op (ok_idxP rfl (fun _ => rfl) rfl (fun _ => rfl) rfl (fun _ => by omega)) rfl rfl ?_
              refine TrL.op (ok_ldP rfl (fun _ => rfl) rfl) rfl rfl ?_
              refine TrL.op (ok_assign rfl (fun _ => rfl)) rfl rfl ?_
              refine TrL.fin ?_
              refine End.nxt ?_
              refine Tr.draw 30 mixed (by kernel_rfl) ?_
              refine RunD.op (ok_move rfl (fun _ => rfl)) rfl rfl ?_
              refine RunD.op (ok_move rfl (fun _ => rfl)) rfl rfl ?_
              refine RunD.op (ok_move rfl (fun _ => rfl)) rfl rfl ?_
              refine RunD.op (ok_move rfl (fun _ => rfl)) rfl rfl ?_
              refine RunD.op (ok_move rfl (fun _ => rfl)) rfl rfl ?_
              first | refine RunD.op (ok_idxN rfl (fun _ => rfl) rfl (fun _ => rfl) rfl (fun _ => by omega)) rfl rfl ?_ | refine RunD.op (ok_idxP rfl (fun _ => rfl) rfl (fun _ => rfl) rfl (fun _ => by omega)) rfl rfl ?_
              refine RunD.op (ok_ldP rfl (fun _ => rfl) rfl) rfl rfl ?_
              refine RunD.op (ok_move rfl (fun _ => rfl)) rfl rfl ?_
              refine RunD.op (ok_move rfl (fun _ => rfl)) rfl rfl ?_
              first | refine RunD.op (ok_idxN rfl (fun _ => rfl) rfl (fun _ => rfl) rfl (fun _ => by omega)) rfl rfl ?_ | refine RunD.op (ok_idxP rfl (fun _ => rfl) rfl (fun _ => rfl) rfl (fun _ => by omega)) rfl rfl ?_
              refine RunD.op (ok_ldP rfl (fun _ => rfl) rfl) rfl rfl ?_
              refine RunD.op (ok_move rfl (fun _ => rfl)) rfl rfl ?_
              refine RunD.op (ok_move rfl (fun _ => rfl)) rfl rfl ?_
              refine RunD.op (ok_lookI (n := atL (sqL o o.1.length) (it o.1 (sadN o k) k)) rfl (fun _ => rfl) rfl (fun _ => rfl) (fun q => by simp [MapKept.IsKey]) (fun _ => by rw [hnx]; exact sqL_look hm1) (fun _ => sqL_nodup)) rfl rfl ?_
              refine RunD.op (ok_move rfl (fun _ => rfl)) rfl rfl ?_
              refine RunD.op (ok_fldO rfl (fun _ => rfl)) rfl rfl ?_
              refine RunD.op (ok_ldB rfl (fun _ => rfl) rfl) rfl rfl ?_
              refine RunD.op (ok_fldO rfl (fun _ => rfl)) rfl rfl ?_
              refine RunD.op (ok_ldB rfl (fun _ => rfl) rfl) rfl rfl ?_
              refine RunD.op (ok_move rfl (fun _ => rfl)) rfl rfl ?_
              refine RunD.op (ok_move rfl (fun _ => rfl)) rfl rfl ?_
              first | refine RunD.op (ok_idxN rfl (fun _ => rfl) rfl (fun _ => rfl) rfl (fun _ => by omega)) rfl rfl ?_ | refine RunD.op (ok_idxP rfl (fun _ => rfl) rfl (fun _ => rfl) rfl (fun _ => by omega)) rfl rfl ?_
              refine RunD.op (ok_ldP rfl (fun _ => rfl) rfl) rfl rfl ?_
              first | refine RunD.op (ok_idxN rfl (fun _ => rfl) rfl (fun _ => rfl) rfl (fun _ => by omega)) rfl rfl ?_ | refine RunD.op (ok_idxP rfl (fun _ => rfl) rfl (fun _ => rfl) rfl (fun _ => by omega)) rfl rfl ?_
              refine RunD.op (ok_ldP rfl (fun _ => rfl) rfl) rfl rfl ?_
              first | refine RunD.op (ok_idxN rfl (fun _ => rfl) rfl (fun _ => rfl) rfl (fun _ => by omega)) rfl rfl ?_ | refine RunD.op (ok_idxP rfl (fun _ => rfl) rfl (fun _ => rfl) rfl (fun _ => by omega)) rfl rfl ?_
              refine RunD.op (ok_ldP rfl (fun _ => rfl) rfl) rfl rfl ?_
              refine RunD.op (ok_lookI (n := atL (sqL o o.1.length) (ap o.2 (ap o.1 (ap (invL o.2) (it o.1 (sadN o k - 1) k))))) rfl (fun _ => rfl) rfl (fun _ => rfl) (fun q => by simp [MapKept.IsKey]) (fun _ => sqL_look hm2) (fun _ => sqL_nodup)) rfl rfl ?_
              refine RunD.op (ok_build (fun hp => .cons rfl rfl rfl <| .cons rfl rfl rfl <| .cons rfl rfl rfl <| .cons rfl rfl rfl <| .cons rfl rfl rfl <| .cons rfl rfl rfl <| .nil)) rfl rfl ?_
              refine RunD.new (ok_bsl eSad 107 (fun hp => .cons rfl <| .nil) rfl rfl rfl rfl) rfl rfl rfl rfl ?_
              refine RunD.z ?_
              refine TrL.app rfl rfl rfl rfl rfl rfl rfl rfl (by first | omega | (simp only [List.length_cons, List.length_nil]; omega)) (by first | omega | (simp only [List.length_cons, List.length_nil]; omega)) ?_
              refine TrL.norm (S' := ⟨_, _, _, _⟩ :: ⟨_, _, _, _⟩ :: ⟨_, _, _, _⟩ :: ⟨_, _, _, _⟩ :: ⟨_, _, _, _⟩ :: ⟨_, _, _, _⟩ :: ⟨_, _, _, _⟩ :: ⟨_, _, _, _⟩ :: ⟨_, _, _, _⟩ :: ⟨_, _, _, _⟩ :: ⟨_, _, _, _⟩ :: ⟨_, _, _, _⟩ :: ⟨_, _, _, _⟩ :: ⟨_, _, _, _⟩ :: ⟨_, _, _, _⟩ :: ⟨_, _, _, _⟩ :: ⟨_, _, _, _⟩ :: ⟨_, _, _, _⟩ :: ⟨_, _, _, _⟩ :: ⟨_, _, _, _⟩ :: ⟨_, _, _, _⟩ :: ⟨_, _, _, _⟩ :: ⟨_, _, _, _⟩ :: ⟨_, _, _, _⟩ :: ⟨_, _, _, _⟩ :: ⟨_, _, _, _⟩ :: ⟨_, _, _, _⟩ :: ⟨_, _, _, _⟩ :: ⟨_, _, _, _⟩ :: ⟨_, _, _, _⟩ :: ⟨_, _, _, _⟩ :: ⟨_, _, _, _⟩ :: ⟨_, _, _, _⟩ :: ⟨_, _, _, _⟩ :: ⟨_, _, _, _⟩ :: ⟨_, _, _, _⟩ :: ⟨_, _, _, _⟩ :: ⟨_, _, _, _⟩ :: ⟨_, _, _, _⟩ :: ⟨_, _, _, _⟩ :: ⟨_, _, _, _⟩ :: ⟨_, _, _, _⟩ :: ⟨_, _, _, _⟩ :: ⟨_, _, _, _⟩ :: ⟨_, _, _, _⟩ :: ⟨_, _, _, _⟩ :: ⟨_, _, _, _⟩ :: ⟨_, _, _, _⟩ :: []) rfl rfl ?_
              refine TrL.op (ok_assign rfl (fun _ => rfl)) rfl rfl ?_
              refine TrL.fin ?_
              refine End.blk ?_
              refine End.nxt ?_
              refine Tr.rg ?_
              refine TrL.op (ok_add rfl (fun _ => rfl) rfl (fun _ => rfl) (fun _ => by omega)) rfl rfl ?_
              refine TrL.op (ok_move rfl (fun _ => rfl)) rfl rfl ?_
              refine TrL.fin ?_
              exact End.lp (k + 1) (by first | rfl | omega | (simp; done) | (simp; omega) | assumption) (by omega) (Ent.mk (.o rfl (by rw [sadL_in hkp, List.length_append]; rfl) rfl <| .i rfl (by first | rfl | omega | (simp; done) | (simp; omega) | assumption) <| .k rfl rfl <| .k rfl rfl <| .k rfl rfl <| .k rfl rfl <| .k rfl rfl <| .k rfl rfl <| .nil) (.a (by rw [sadL_in hkp, hnx]; rfl) (by rw [sadL_in hkp, List.length_append]; rfl) <| .k rfl <| .k rfl <| .nil) rfl)
        · intro h15
          replace h15 := Int.not_lt.1 (of_decide_eq_false h15)
          refine Tr.exit ?_
          refine Exs.thn ?_
          refine Exs.thn ?_
          refine Exs.here ?_
          exact End.cut (k) (by omega) (Ent.mk (.o rfl (by first | rfl | omega | (simp; done) | (simp; omega) | assumption) rfl <| .i rfl (by first | rfl | omega | (simp; done) | (simp; omega) | assumption) <| .k rfl rfl <| .k rfl rfl <| .k rfl rfl <| .k rfl rfl <| .k rfl rfl <| .k rfl rfl <| .nil) (.a (by first | rfl | omega | (simp; done) | (simp; omega) | assumption) (by first | rfl | omega | (simp; done) | (simp; omega) | assumption) <| .k rfl <| .k rfl <| .nil) rfl)
      · rintro _ rfl
        refine End.norm (S' := [⟨10, true, _, _⟩, ⟨48, true, _, _⟩, ⟨1, true, _, _⟩, ⟨5, true, _, _⟩, ⟨6, true, _, _⟩, ⟨7, true, _, _⟩, ⟨8, true, _, _⟩, ⟨47, true, _, _⟩]) (M' := [⟨10, _, _⟩, ⟨1, _, _⟩, ⟨28, _, _⟩]) rfl rfl ?_
        have hsl := sadL_len (o := o) (k := o.1.length)
        refine End.nxt ?_
        refine Tr.seq ?_
        refine Tr.rg ?_
        refine TrL.op (ok_move rfl (fun _ => rfl)) rfl rfl ?_
        refine TrL.op (ok_assign rfl (fun _ => rfl)) rfl rfl ?_
        refine TrL.op (ok_assign rfl (fun _ => rfl)) rfl rfl ?_
        refine TrL.fin ?_
        refine End.nxt ?_
        refine Tr.frz 10 [2] ⟨rfl, trivial⟩ (by simp only [lenMax]; omega) rfl ?_
        refine Tr.ret ?_
        exact Rts.res (fn := Try.f42) (ts := [2, 3]) rfl rfl (.r rfl (by rw [if_pos h2]) <| .i rfl h2.symm <| .nil)

set_option maxRecDepth 100000 in
set_option maxHeartbeats 1000000 in
theorem ct_rSaddles (o : Ori) (v : Valid o) : Ct Try.prog 43 [kRd eO o] (kRd (eL eSad) (sadL o o.1.length)) := by
  have hv0 := v.pos
  have hv1 := v.len
  have hv2 := v.le
  have hR := v.pR
  have hU := v.pU
  have hiL := invL_len o.2
  refine Ct.mk Try.func43 rfl Try.ntmps43 rfl (fun w J => ?_)
  refine Tr.seq ?_
  refine Tr.rg ?_
  refine TrL.new (ok_box 1 rfl (fun _ => rfl) rfl) rfl rfl rfl rfl ?_
  refine TrL.op (ok_assign rfl (fun _ => rfl)) rfl rfl ?_
  refine TrL.fin ?_
  refine End.nxt ?_
  refine Tr.seq ?_
  refine Tr.rg ?_
  refine TrL.op (ok_assign rfl (fun _ => rfl)) rfl rfl ?_
  refine TrL.fin ?_
  refine End.nxt ?_
  refine Tr.seq ?_
  refine Tr.seq ?_
  refine Tr.rg ?_
  refine TrL.op (ok_assign rfl (fun _ => rfl)) rfl rfl ?_
  refine TrL.fin ?_
  refine End.nxt ?_
  refine Tr.grow (s := 3) rfl rfl 3 rfl 3 eI rfl ?_
  refine Tr.for1 (σ := Nat) [⟨1, true, _, _⟩] [⟨1, _, _⟩] (fun k => [⟨3, true, [3], kOsl 3 (sqL o k).length⟩, ⟨4, true, [], kI (k : Int)⟩]) (fun k => [⟨3, [], cArr true 3 eI (sqL o k) (sqL o k).length⟩]) (fun k => k ≤ o.1.length) (fun k => k = o.1.length) (fun k => o.1.length - k) (0) (Nat.zero_le _) (Ent.mk (.o rfl (by first | rfl | omega | (simp; done) | (simp; omega) | assumption) rfl <| .i rfl (by first | rfl | omega | (simp; done) | (simp; omega) | assumption) <| .k rfl rfl <| .nil) (.a (by rfl) (by first | rfl | omega | (simp; done) | (simp; omega) | assumption) <| .k rfl <| .nil) rfl) ?_ ?_
  · intro k hR0
    refine Tr.norm (S' := [⟨3, true, _, _⟩, ⟨4, true, _, _⟩, ⟨1, true, _, _⟩]) (M' := [⟨3, _, _⟩, ⟨1, _, _⟩]) rfl rfl ?_
    have hsl := sqL_len (o := o) (k := k)
    refine Tr.seq ?_
    refine Tr.seq ?_
    refine Tr.rg ?_
    refine TrL.op (ok_move rfl (fun _ => rfl)) rfl rfl ?_
    refine TrL.op (ok_ldBS rfl (fun _ => rfl)) rfl rfl ?_
    refine TrL.op (ok_call (fun hp => ct_rSize _) (.s rfl (fun _ => rfl) rfl <| .nil)) rfl rfl ?_
    refine TrL.op (ok_lss rfl (fun _ => rfl) rfl (fun _ => rfl)) rfl rfl ?_
    refine TrL.fin ?_
    refine End.nxt ?_
    refine Tr.cnd rfl ?_ ?_
    · intro h3
      replace h3 := of_decide_eq_true h3
      have hks : Sq o.1.length (k : Int) := Sq.nat (by omega)
      refine Tr.skip ?_
      refine End.nxt ?_
      refine Tr.seq ?_
      refine Tr.blk ?_
      refine Tr.seq ?_
      refine Tr.rg ?_
      refine TrL.op (ok_ldBS rfl (fun _ => rfl)) rfl rfl ?_
      refine TrL.op (ok_move rfl (fun _ => rfl)) rfl rfl ?_
      refine TrL.op (ok_call (fun hp => ct_rOrder _ _ v hks) (.s rfl (fun _ => rfl) rfl <| .a rfl (fun _ => rfl) <| .nil)) rfl rfl ?_
      refine TrL.op (ok_gtr rfl (fun _ => rfl) rfl (fun _ => rfl)) rfl rfl ?_
      refine TrL.fin ?_
      refine End.nxt ?_
      refine Tr.cnd rfl ?_ ?_
      · intro h5
        replace h5 := of_decide_eq_true h5
        refine Tr.rg ?_
        refine TrL.op (ok_move rfl (fun _ => rfl)) rfl rfl ?_
        refine TrL.op (ok_move rfl (fun _ => rfl)) rfl rfl ?_
        refine TrL.new (ok_bsl eI 23 (fun hp => .cons rfl <| .nil) rfl rfl rfl rfl) rfl rfl rfl rfl ?_
        refine TrL.app rfl rfl rfl rfl rfl rfl rfl rfl (by first | omega | (simp only [List.length_cons, List.length_nil]; omega)) (by first | omega | (simp only [List.length_cons, List.length_nil]; omega)) ?_
        refine TrL.norm (S' := [⟨_, _, _, _⟩, ⟨_, _, _, _⟩, ⟨_, _, _, _⟩, ⟨_, _, _, _⟩, ⟨_, _, _, _⟩, ⟨_, _, _, _⟩, ⟨_, _, _, _⟩, ⟨_, _, _, _⟩, ⟨_, _, _, _⟩, ⟨_, _, _, _⟩, ⟨_, _, _, _⟩, ⟨_, _, _, _⟩, ⟨_, _, _, _⟩, ⟨_, _, _, _⟩, ⟨_, _, _, _⟩]) rfl rfl ?_
        refine TrL.op (ok_assign rfl (fun _ => rfl)) rfl rfl ?_
        refine TrL.fin ?_
        refine End.blk ?_
        refine End.nxt ?_
        refine Tr.rg ?_
        refine TrL.op (ok_move rfl (fun _ => rfl)) rfl rfl ?_
        refine TrL.op (ok_add rfl (fun _ => rfl) rfl (fun _ => rfl) (fun _ => by omega)) rfl rfl ?_
        refine TrL.op (ok_assign rfl (fun _ => rfl)) rfl rfl ?_
        refine TrL.fin ?_
        exact End.lp (k + 1) (by first | rfl | omega | (simp; done) | (simp; omega) | assumption) (by omega) (Ent.mk (.o rfl (by rw [sqL_in (by omega), List.length_append]) rfl <| .i rfl (by first | rfl | omega | (simp; done) | (simp; omega) | assumption) <| .k rfl rfl <| .nil) (.a (by rw [sqL_in (by omega)]) (by rw [sqL_in (by omega), List.length_append]) <| .k rfl <| .nil) rfl)
      · intro h5
        replace h5 := Int.not_lt.1 (of_decide_eq_false h5)
        refine Tr.skip ?_
        refine End.blk ?_
        refine End.nxt ?_
        refine Tr.rg ?_
        refine TrL.op (ok_move rfl (fun _ => rfl)) rfl rfl ?_
        refine TrL.op (ok_add rfl (fun _ => rfl) rfl (fun _ => rfl) (fun _ => by omega)) rfl rfl ?_
        refine TrL.op (ok_assign rfl (fun _ => rfl)) rfl rfl ?_
        refine TrL.fin ?_
        exact End.lp (k + 1) (by first | rfl | omega | (simp; done) | (simp; omega) | assumption) (by omega) (Ent.mk (.o rfl (by rw [sqL_out (by omega)]) rfl <| .i rfl (by first | rfl | omega | (simp; done) | (simp; omega) | assumption) <| .k rfl rfl <| .nil) (.a (by rw [sqL_out (by omega)]) (by rw [sqL_out (by omega)]) <| .k rfl <| .nil) rfl)
    · intro h3
      replace h3 := Int.not_lt.1 (of_decide_eq_false h3)
      refine Tr.exit ?_
      refine Exs.thn ?_
      refine Exs.thn ?_
      refine Exs.here ?_
      exact End.cut (k) (by omega) (Ent.mk (.o rfl (by first | rfl | omega | (simp; done) | (simp; omega) | assumption) rfl <| .i rfl (by first | rfl | omega | (simp; done) | (simp; omega) | assumption) <| .k rfl rfl <| .nil) (.a (by first | rfl | omega | (simp; done) | (simp; omega) | assumption) (by first | rfl | omega | (simp; done) | (simp; omega) | assumption) <| .k rfl <| .nil) rfl)
  · rintro _ rfl
    refine End.norm (S' := [⟨3, true, _, _⟩, ⟨4, true, _, _⟩, ⟨1, true, _, _⟩]) (M' := [⟨3, _, _⟩, ⟨1, _, _⟩]) rfl rfl ?_
    have hsl := sqL_len (o := o) (k := o.1.length)
    refine End.nxt ?_
    refine Tr.seq ?_
    refine Tr.rg ?_
    refine TrL.op (ok_fldO rfl (fun _ => rfl)) rfl rfl ?_
    refine TrL.op (ok_ldB rfl (fun _ => rfl) rfl) rfl rfl ?_
    refine TrL.op (ok_call (fun hp => ct_rInv2 _ v.pU (by omega)) (.a rfl (fun _ => rfl) <| .nil)) rfl rfl ?_
    refine TrL.op (ok_assign rfl (fun _ => rfl)) rfl rfl ?_
    refine TrL.fin ?_
    refine End.nxt ?_
    refine Tr.seq ?_
    refine Tr.rg ?_
    refine TrL.op (ok_assign rfl (fun _ => rfl)) rfl rfl ?_
    refine TrL.frz 3 [3] ⟨rfl, trivial⟩ (by simp only [lenMax]; omega) rfl ?_
    refine TrL.norm (S' := [⟨_, _, _, _⟩, ⟨_, _, _, _⟩, ⟨_, _, _, _⟩, ⟨_, _, _, _⟩, ⟨_, _, _, _⟩, ⟨_, _, _, _⟩, ⟨_, _, _, _⟩, ⟨_, _, _, _⟩, ⟨_, _, _, _⟩]) rfl rfl ?_
    refine TrL.fin ?_
    refine End.nxt ?_
    refine Tr.seq ?_
    refine Tr.seq ?_
    refine Tr.rg ?_
    refine TrL.op (ok_assign rfl (fun _ => rfl)) rfl rfl ?_
    refine TrL.fin ?_
    refine End.nxt ?_
    refine Tr.grow (s := 6) rfl rfl 6 rfl 62 eSad rfl ?_
    refine Tr.for1 (σ := Nat) [⟨1, true, _, _⟩, ⟨3, true, _, _⟩, ⟨5, true, _, _⟩] [⟨1, _, _⟩] (fun i => [⟨7, true, [], kI (i : Int)⟩, ⟨6, true, [6], kOsl 6 i⟩]) (fun i => [⟨6, [], cArr true 62 eSad (sadT o i) i⟩]) (fun i => i ≤ (sqL o o.1.length).length) (fun i => i = (sqL o o.1.length).length) (fun i => (sqL o o.1.length).length - i) (0) (Nat.zero_le _) (Ent.mk (.i rfl (by first | rfl | omega | (simp; done) | (simp; omega) | assumption) <| .o rfl (by first | rfl | omega | (simp; done) | (simp; omega) | assumption) rfl <| .k rfl rfl <| .k rfl rfl <| .k rfl rfl <| .nil) (.a (by rfl) (by first | rfl | omega | (simp; done) | (simp; omega) | assumption) <| .k rfl <| .nil) rfl) ?_ ?_
    · intro i hR1
      refine Tr.norm (S' := [⟨7, true, _, _⟩, ⟨6, true, _, _⟩, ⟨1, true, _, _⟩, ⟨3, true, _, _⟩, ⟨5, true, _, _⟩]) (M' := [⟨6, _, _⟩, ⟨1, _, _⟩]) rfl rfl ?_
      refine Tr.seq ?_
      refine Tr.seq ?_
      refine Tr.rg ?_
      refine TrL.op (ok_move rfl (fun _ => rfl)) rfl rfl ?_
      refine TrL.op (ok_move rfl (fun _ => rfl)) rfl rfl ?_
      refine TrL.op (ok_lenJ rfl (fun _ => rfl)) rfl rfl ?_
      refine TrL.op (ok_lss rfl (fun _ => rfl) rfl (fun _ => rfl)) rfl rfl ?_
      refine TrL.fin ?_
      refine End.nxt ?_
      refine Tr.cnd rfl ?_ ?_
      · intro h10
        replace h10 := of_decide_eq_true h10
        obtain ⟨hxs, hxp⟩ := mem_sqL.1 (nth_mem (xs := (sqL o o.1.length)) (i := i) (by omega))
        have hx0 := hxs.1
        have hx1 := hxs.2
        obtain ⟨hs1, hs2, hs3, hs4⟩ := sadN_spec v hxs hxp
        have hsb : nth o.2 (it o.1 (sadN o (nth (sqL o o.1.length) i)) (ap (invL o.2) (nth (sqL o o.1.length) i))).toNat = ap o.2 (ap o.1 (ap (invL o.2) (it o.1 (sadN o (nth (sqL o o.1.length) i) - 1) (nth (sqL o o.1.length) i)))) := sad_below v hxs hxp
        have hd : 0 ≤ nth (invL o.2) (nth (sqL o o.1.length) i).toNat ∧ nth (invL o.2) (nth (sqL o o.1.length) i).toNat < o.1.length := hU.inv.aps hxs
        refine Tr.skip ?_
        refine End.nxt ?_
        refine Tr.seq ?_
        refine Tr.blk ?_
        refine Tr.seq ?_
        refine Tr.draw 12 mixed (by kernel_rfl) ?_
        refine RunD.op (ok_move rfl (fun _ => rfl)) rfl rfl ?_
        refine RunD.op (ok_move rfl (fun _ => rfl)) rfl rfl ?_
        first | refine RunD.op (ok_idxN rfl (fun _ => rfl) rfl (fun _ => rfl) rfl (fun _ => by omega)) rfl rfl ?_ | refine RunD.op (ok_idxP rfl (fun _ => rfl) rfl (fun _ => rfl) rfl (fun _ => by omega)) rfl rfl ?_
        refine RunD.op (ok_ldP rfl (fun _ => rfl) rfl) rfl rfl ?_
        refine RunD.op (ok_ldBS rfl (fun _ => rfl)) rfl rfl ?_
        refine RunD.op (ok_move rfl (fun _ => rfl)) rfl rfl ?_
        refine RunD.op (ok_move rfl (fun _ => rfl)) rfl rfl ?_
        first | refine RunD.op (ok_idxN rfl (fun _ => rfl) rfl (fun _ => rfl) rfl (fun _ => by omega)) rfl rfl ?_ | refine RunD.op (ok_idxP rfl (fun _ => rfl) rfl (fun _ => rfl) rfl (fun _ => by omega)) rfl rfl ?_
        refine RunD.op (ok_ldP rfl (fun _ => rfl) rfl) rfl rfl ?_
        refine RunD.op (ok_call (fun hp => ct_rVertexOf _ _ v hxs) (.s rfl (fun _ => rfl) rfl <| .a rfl (fun _ => rfl) <| .nil)) rfl rfl ?_
        refine RunD.op (ok_build (fun hp => .cons rfl rfl rfl <| .cons rfl rfl rfl <| .nil)) rfl rfl ?_
        refine RunD.new (ok_alloc 8) rfl rfl rfl rfl ?_
        refine RunD.z ?_
        refine TrL.stB rfl rfl rfl rfl ?_
        refine TrL.fin ?_
        refine End.nxt ?_
        refine Tr.seq ?_
        refine Tr.draw 12 mixed (by kernel_rfl) ?_
        refine RunD.op (ok_move rfl (fun _ => rfl)) rfl rfl ?_
        refine RunD.op (ok_move rfl (fun _ => rfl)) rfl rfl ?_
        first | refine RunD.op (ok_idxN rfl (fun _ => rfl) rfl (fun _ => rfl) rfl (fun _ => by omega)) rfl rfl ?_ | refine RunD.op (ok_idxP rfl (fun _ => rfl) rfl (fun _ => rfl) rfl (fun _ => by omega)) rfl rfl ?_
        refine RunD.op (ok_ldP rfl (fun _ => rfl) rfl) rfl rfl ?_
        refine RunD.op (ok_move rfl (fun _ => rfl)) rfl rfl ?_
        refine RunD.op (ok_move rfl (fun _ => rfl)) rfl rfl ?_
        refine RunD.op (ok_move rfl (fun _ => rfl)) rfl rfl ?_
        first | refine RunD.op (ok_idxN rfl (fun _ => rfl) rfl (fun _ => rfl) rfl (fun _ => by omega)) rfl rfl ?_ | refine RunD.op (ok_idxP rfl (fun _ => rfl) rfl (fun _ => rfl) rfl (fun _ => by omega)) rfl rfl ?_
        refine RunD.op (ok_ldP rfl (fun _ => rfl) rfl) rfl rfl ?_
        first | refine RunD.op (ok_idxN rfl (fun _ => rfl) rfl (fun _ => rfl) rfl (fun _ => by omega)) rfl rfl ?_ | refine RunD.op (ok_idxP rfl (fun _ => rfl) rfl (fun _ => rfl) rfl (fun _ => by omega)) rfl rfl ?_
        refine RunD.op (ok_ldP rfl (fun _ => rfl) rfl) rfl rfl ?_
        refine RunD.op (ok_assign rfl (fun _ => rfl)) rfl rfl ?_
        refine RunD.z ?_
        refine TrL.op (ok_assign rfl (fun _ => rfl)) rfl rfl ?_
        refine TrL.fin ?_
        refine End.nxt ?_
        refine Tr.for (σ := Nat) [⟨1, true, _, _⟩, ⟨3, true, _, _⟩, ⟨5, true, _, _⟩, ⟨6, true, _, _⟩, ⟨7, true, _, _⟩, ⟨8, true, _, _⟩] [⟨1, _, _⟩, ⟨6, _, _⟩] (fun m => [⟨9, true, [], kI (it o.1 m (nth (sqL o o.1.length) i))⟩, ⟨10, true, [], kI (it o.1 m (ap (invL o.2) (nth (sqL o o.1.length) i)))⟩]) (fun m => [⟨8, [], cBlk [kI (nth (sqL o o.1.length) i), kI (m : Int), kI (nth (vertL o) (nth (sqL o o.1.length) i).toNat), kI 0, kI 0, kI 0]⟩]) (fun m => m ≤ sadN o (nth (sqL o o.1.length) i)) (fun m => m = sadN o (nth (sqL o o.1.length) i)) (fun m => sadN o (nth (sqL o o.1.length) i) - m) (0) (Nat.zero_le _) (Ent.mk (.i rfl (by rfl) <| .i rfl (by rfl) <| .k rfl rfl <| .k rfl rfl <| .k rfl rfl <| .k rfl rfl <| .k rfl rfl <| .k rfl rfl <| .nil) (.e (by rfl) rfl <| .k rfl <| .k rfl <| .nil) rfl) ?_ ?_
        · intro m hml
          refine Tr.norm (S' := [⟨9, true, _, _⟩, ⟨10, true, _, _⟩, ⟨1, true, _, _⟩, ⟨3, true, _, _⟩, ⟨5, true, _, _⟩, ⟨6, true, _, _⟩, ⟨7, true, _, _⟩, ⟨8, true, _, _⟩]) (M' := [⟨8, _, _⟩, ⟨1, _, _⟩, ⟨6, _, _⟩]) rfl rfl ?_
          have hqm := hR.its hxs m
          have hq0 := hqm.1
          have hq1 := hqm.2
          have hbm := hR.its (hU.inv.aps hxs) m
          have hb0 := hbm.1
          have hb1 := hbm.2
          refine Tr.seq ?_
          refine Tr.seq ?_
          refine Tr.rg ?_
          refine TrL.op (ok_fldO rfl (fun _ => rfl)) rfl rfl ?_
          refine TrL.op (ok_ldB rfl (fun _ => rfl) rfl) rfl rfl ?_
          refine TrL.op (ok_eql rfl (fun _ => rfl) rfl (fun _ => rfl)) rfl rfl ?_
          refine TrL.op (ok_move rfl (fun _ => rfl)) rfl rfl ?_
          refine TrL.gd rfl rfl rfl (ok_ldBS rfl (fun _ => rfl)) rfl rfl ?_
          refine TrL.gd rfl rfl rfl (ok_move rfl (fun _ => rfl)) rfl rfl ?_
          refine TrL.gd rfl rfl rfl (ok_call (fun hp => ct_rOrder _ _ v hqm) (.s rfl id rfl <| .a rfl id <| .nil)) rfl rfl ?_
          refine TrL.gd rfl rfl rfl (ok_eql rfl id rfl (fun _ => rfl)) rfl rfl ?_
          refine TrL.op (ok_or rfl (fun _ => rfl) rfl (fun hp h => gdF2 ((fun _ => rfl) hp) h)) rfl rfl ?_
          refine TrL.fin ?_
          refine End.nxt ?_
          refine Tr.cnd rfl ?_ ?_
          · intro h14
            have hone : m + 1 ≤ sadN o (nth (sqL o o.1.length) i) := (by rcases Nat.eq_zero_or_pos m with h | h; omega; exact (sadN_at v hxs hxp h hml).1 (by simp at h14; omega))
            refine Tr.skip ?_
            refine End.nxt ?_
            refine Tr.blk ?_
            refine Tr.seq ?_
            refine Tr.draw 11 mixed (by kernel_rfl) ?_
            refine RunD.op (ok_fldO rfl (fun _ => rfl)) rfl rfl ?_
            refine RunD.op (ok_ldB rfl (fun _ => rfl) rfl) rfl rfl ?_
            refine RunD.op (ok_move rfl (fun _ => rfl)) rfl rfl ?_
            first | refine RunD.op (ok_idxN rfl (fun _ => rfl) rfl (fun _ => rfl) rfl (fun _ => by omega)) rfl rfl ?_ | refine RunD.op (ok_idxP rfl (fun _ => rfl) rfl (fun _ => rfl) rfl (fun _ => by omega)) rfl rfl ?_
            refine RunD.op (ok_ldP rfl (fun _ => rfl) rfl) rfl rfl ?_
            refine RunD.op (ok_fldO rfl (fun _ => rfl)) rfl rfl ?_
            refine RunD.op (ok_ldB rfl (fun _ => rfl) rfl) rfl rfl ?_
            refine RunD.op (ok_move rfl (fun _ => rfl)) rfl rfl ?_
            first | refine RunD.op (ok_idxN rfl (fun _ => rfl) rfl (fun _ => rfl) rfl (fun _ => by omega)) rfl rfl ?_ | refine RunD.op (ok_idxP rfl (fun _ => rfl) rfl (fun _ => rfl) rfl (fun _ => by omega)) rfl rfl ?_
            refine RunD.op (ok_ldP rfl (fun _ => rfl) rfl) rfl rfl ?_
            refine RunD.op (ok_assign rfl (fun _ => rfl)) rfl rfl ?_
            refine RunD.z ?_
            refine TrL.op (ok_assign rfl (fun _ => rfl)) rfl rfl ?_
            refine TrL.fin ?_
            refine End.nxt ?_
            refine Tr.rg ?_
            refine TrL.op (ok_fldO rfl (fun _ => rfl)) rfl rfl ?_
            refine TrL.op (ok_ldB rfl (fun _ => rfl) rfl) rfl rfl ?_
            refine TrL.op (ok_add rfl (fun _ => rfl) rfl (fun _ => rfl) (fun _ => by omega)) rfl rfl ?_
            refine TrL.op (ok_fldO rfl (fun _ => rfl)) rfl rfl ?_
            refine TrL.stB rfl rfl rfl rfl ?_
            refine TrL.fin ?_
            refine End.blk ?_
            exact End.lp (m + 1) hone (by omega) (Ent.mk (.i rfl (by rfl) <| .i rfl (by rfl) <| .k rfl rfl <| .k rfl rfl <| .k rfl rfl <| .k rfl rfl <| .k rfl rfl <| .k rfl rfl <| .nil) (.e (by rfl) rfl <| .k rfl <| .k rfl <| .nil) rfl)
          · intro h14
            simp at h14
            have hone : m = sadN o (nth (sqL o o.1.length) i) := (sadN_at v hxs hxp (by omega) hml).2 (by omega)
            refine Tr.exit ?_
            refine Exs.thn ?_
            refine Exs.thn ?_
            refine Exs.here ?_
            exact End.cut (m) hone (Ent.mk (.i rfl (by first | rfl | omega | (simp; done) | (simp; omega) | assumption) <| .i rfl (by first | rfl | omega | (simp; done) | (simp; omega) | assumption) <| .k rfl rfl <| .k rfl rfl <| .k rfl rfl <| .k rfl rfl <| .k rfl rfl <| .k rfl rfl <| .nil) (.k rfl <| .k rfl <| .k rfl <| .nil) rfl)
        · rintro _ rfl
          refine Tr.norm (S' := [⟨9, true, _, _⟩, ⟨10, true, _, _⟩, ⟨1, true, _, _⟩, ⟨3, true, _, _⟩, ⟨5, true, _, _⟩, ⟨6, true, _, _⟩, ⟨7, true, _, _⟩, ⟨8, true, _, _⟩]) (M' := [⟨8, _, _⟩, ⟨1, _, _⟩, ⟨6, _, _⟩]) rfl rfl ?_
          have hqm := hR.its hxs (sadN o (nth (sqL o o.1.length) i))
          have hbm := hR.its (hU.inv.aps hxs) (sadN o (nth (sqL o o.1.length) i))
          have hb0 := hbm.1
          have hb1 := hbm.2
          refine Tr.seq ?_
          refine Tr.rg ?_
          refine TrL.op (ok_ldBS rfl (fun _ => rfl)) rfl rfl ?_
          refine TrL.op (ok_move rfl (fun _ => rfl)) rfl rfl ?_
          refine TrL.op (ok_call (fun hp => ct_rVertexOf _ _ v hqm) (.s rfl (fun _ => rfl) rfl <| .a rfl (fun _ => rfl) <| .nil)) rfl rfl ?_
          refine TrL.op (ok_fldO rfl (fun _ => rfl)) rfl rfl ?_
          refine TrL.stB rfl rfl rfl rfl ?_
          refine TrL.fin ?_
          refine End.nxt ?_
          refine Tr.seq ?_
          refine Tr.draw 11 mixed (by kernel_rfl) ?_
          refine RunD.op (ok_move rfl (fun _ => rfl)) rfl rfl ?_
          refine RunD.op (ok_move rfl (fun _ => rfl)) rfl rfl ?_
          refine RunD.op (ok_call (fun hp => ct_rAt _ _) (.a rfl (fun _ => rfl) <| .a rfl (fun _ => rfl) <| .nil)) rfl rfl ?_
          refine RunD.op (ok_move rfl (fun _ => rfl)) rfl rfl ?_
          refine RunD.op (ok_fldO rfl (fun _ => rfl)) rfl rfl ?_
          refine RunD.op (ok_ldB rfl (fun _ => rfl) rfl) rfl rfl ?_
          refine RunD.op (ok_move rfl (fun _ => rfl)) rfl rfl ?_
          first | refine RunD.op (ok_idxN rfl (fun _ => rfl) rfl (fun _ => rfl) rfl (fun _ => by omega)) rfl rfl ?_ | refine RunD.op (ok_idxP rfl (fun _ => rfl) rfl (fun _ => rfl) rfl (fun _ => by omega)) rfl rfl ?_
          refine RunD.op (ok_ldP rfl (fun _ => rfl) rfl) rfl rfl ?_
          refine RunD.op (ok_call (fun hp => ct_rAt _ _) (.a rfl (fun _ => rfl) <| .a rfl (fun _ => rfl) <| .nil)) rfl rfl ?_
          refine RunD.op (ok_fldO rfl (fun _ => rfl)) rfl rfl ?_
          refine RunD.z ?_
          refine TrL.stB rfl rfl rfl rfl ?_
          refine TrL.op (ok_fldO rfl (fun _ => rfl)) rfl rfl ?_
          refine TrL.stB rfl rfl rfl rfl ?_
          refine TrL.fin ?_
          refine End.nxt ?_
          refine Tr.rg ?_
          refine TrL.op (ok_move rfl (fun _ => rfl)) rfl rfl ?_
          refine TrL.op (ok_ldBS rfl (fun _ => rfl)) rfl rfl ?_
          refine TrL.new (ok_bsl eSad 97 (fun hp => .cons rfl <| .nil) rfl rfl rfl rfl) rfl rfl rfl rfl ?_
          refine TrL.app rfl rfl rfl rfl rfl rfl rfl rfl (by first | omega | (simp only [List.length_cons, List.length_nil]; omega)) (by first | omega | (simp only [List.length_cons, List.length_nil]; omega)) ?_
          refine TrL.norm (S' := [⟨_, _, _, _⟩, ⟨_, _, _, _⟩, ⟨_, _, _, _⟩, ⟨_, _, _, _⟩, ⟨_, _, _, _⟩, ⟨_, _, _, _⟩, ⟨_, _, _, _⟩, ⟨_, _, _, _⟩, ⟨_, _, _, _⟩, ⟨_, _, _, _⟩, ⟨_, _, _, _⟩, ⟨_, _, _, _⟩, ⟨_, _, _, _⟩, ⟨_, _, _, _⟩, ⟨_, _, _, _⟩, ⟨_, _, _, _⟩, ⟨_, _, _, _⟩, ⟨_, _, _, _⟩, ⟨_, _, _, _⟩, ⟨_, _, _, _⟩, ⟨_, _, _, _⟩, ⟨_, _, _, _⟩, ⟨_, _, _, _⟩, ⟨_, _, _, _⟩, ⟨_, _, _, _⟩, ⟨_, _, _, _⟩, ⟨_, _, _, _⟩, ⟨_, _, _, _⟩]) rfl rfl ?_
          refine TrL.op (ok_assign rfl (fun _ => rfl)) rfl rfl ?_
          refine TrL.fin ?_
          refine End.blk ?_
          refine End.nxt ?_
          refine Tr.rg ?_
          refine TrL.op (ok_move rfl (fun _ => rfl)) rfl rfl ?_
          refine TrL.op (ok_add rfl (fun _ => rfl) rfl (fun _ => rfl) (fun _ => by omega)) rfl rfl ?_
          refine TrL.op (ok_assign rfl (fun _ => rfl)) rfl rfl ?_
          refine TrL.fin ?_
          exact End.lp (i + 1) (by first | rfl | omega | (simp; done) | (simp; omega) | assumption) (by omega) (Ent.mk (.i rfl (by first | rfl | omega | (simp; done) | (simp; omega) | assumption) <| .o rfl (by first | rfl | omega | (simp; done) | (simp; omega) | assumption) rfl <| .k rfl rfl <| .k rfl rfl <| .k rfl rfl <| .nil) (.a (by rw [sadT_succ (by omega), hsb]; rfl) (by first | rfl | omega | (simp; done) | (simp; omega) | assumption) <| .k rfl <| .nil) rfl)
      · intro h10
        replace h10 := Int.not_lt.1 (of_decide_eq_false h10)
        refine Tr.exit ?_
        refine Exs.thn ?_
        refine Exs.thn ?_
        refine Exs.here ?_
        exact End.cut (i) (by omega) (Ent.mk (.i rfl (by first | rfl | omega | (simp; done) | (simp; omega) | assumption) <| .o rfl (by first | rfl | omega | (simp; done) | (simp; omega) | assumption) rfl <| .k rfl rfl <| .k rfl rfl <| .k rfl rfl <| .nil) (.a (by first | rfl | omega | (simp; done) | (simp; omega) | assumption) (by first | rfl | omega | (simp; done) | (simp; omega) | assumption) <| .k rfl <| .nil) rfl)
    · rintro _ rfl
      refine End.norm (S' := [⟨7, true, _, _⟩, ⟨6, true, _, _⟩, ⟨1, true, _, _⟩, ⟨3, true, _, _⟩, ⟨5, true, _, _⟩]) (M' := [⟨6, _, _⟩, ⟨1, _, _⟩]) rfl rfl ?_
      refine End.nxt ?_
      refine Tr.seq ?_
      refine Tr.rg ?_
      refine TrL.op (ok_move rfl (fun _ => rfl)) rfl rfl ?_
      refine TrL.op (ok_assign rfl (fun _ => rfl)) rfl rfl ?_
      refine TrL.fin ?_
      refine End.nxt ?_
      refine Tr.frz 6 [2] ⟨rfl, trivial⟩ (by simp only [lenMax]; omega) rfl ?_
      refine Tr.ret ?_
      exact Rts.res1 (fn := Try.f43) rfl (.r rfl sadT_all <| .nil)

set_option maxRecDepth 100000 in
theorem ct_OrigamiSaddles (o : Ori) : Ct Try.prog 7 [kRd eO o] (kB true) := by
  refine Ct.mk Try.func7 rfl Try.ntmps7 rfl (fun w J => ?_)
  refine Tr.seq ?_
  refine Tr.rg ?_
  refine TrL.new (ok_box 1 rfl (fun _ => rfl) rfl) rfl rfl rfl rfl ?_
  refine TrL.op (ok_assign rfl (fun _ => rfl)) rfl rfl ?_
  refine TrL.fin ?_
  refine End.nxt ?_
  refine Tr.seq ?_
  refine Tr.seq ?_
  refine Tr.rg ?_
  refine TrL.op (ok_call (fun hp => ct_awake) (.nil)) rfl rfl ?_
  refine TrL.op (ok_not rfl (fun _ => rfl)) rfl rfl ?_
  refine TrL.fin ?_
  refine End.nxt ?_
  refine Tr.cnd rfl ?_ ?_
  · intro h1
    simp at h1
  · intro h1
    refine Tr.skip ?_
    refine End.nxt ?_
    refine Tr.seq ?_
    refine Tr.seq ?_
    refine Tr.rg ?_
    refine TrL.op (ok_ldBS rfl (fun _ => rfl)) rfl rfl ?_
    refine TrL.op (ok_call (fun hp => ct_Few _) (.s rfl (fun _ => rfl) rfl <| .nil)) rfl rfl ?_
    refine TrL.op (ok_not rfl (fun _ => rfl)) rfl rfl ?_
    refine TrL.fin ?_
    refine End.nxt ?_
    refine Tr.cnd rfl ?_ ?_
    · intro h3
      try simp only [decide_eq_false_iff_not, Bool.not_eq_true'] at h3
      refine Tr.seq ?_
      refine Tr.rg ?_
      refine TrL.op (ok_assign rfl (fun _ => rfl)) rfl rfl ?_
      refine TrL.fin ?_
      refine End.nxt ?_
      refine Tr.ret ?_
      refine Rts.thn ?_
      exact Rts.res1 (fn := Try.f7) rfl (.b rfl (by rfl) <| .nil)
    · intro h3
      try simp only [decide_eq_true_eq, Bool.not_eq_false'] at h3
      refine Tr.skip ?_
      refine End.nxt ?_
      refine Tr.seq ?_
      refine Tr.rg ?_
      refine TrL.op (ok_ldBS rfl (fun _ => rfl)) rfl rfl ?_
      refine TrL.op (ok_call (fun hp => ct_oSaddles _) (.s rfl (fun _ => rfl) rfl <| .nil)) rfl rfl ?_
      refine TrL.op (ok_move rfl (fun _ => rfl)) rfl rfl ?_
      refine TrL.op (ok_ext rfl (fun _ => rfl) rfl) rfl rfl ?_
      refine TrL.op (ok_ext rfl (fun _ => rfl) rfl) rfl rfl ?_
      refine TrL.op (ok_assign rfl (fun _ => rfl)) rfl rfl ?_
      refine TrL.op (ok_assign rfl (fun _ => rfl)) rfl rfl ?_
      refine TrL.fin ?_
      refine End.nxt ?_
      refine Tr.seq ?_
      refine Tr.seq ?_
      refine Tr.rg ?_
      refine TrL.op (ok_ldBS rfl (fun _ => rfl)) rfl rfl ?_
      refine TrL.op (ok_call (fun hp => ct_rCheck _) (.s rfl (fun _ => rfl) rfl <| .nil)) rfl rfl ?_
      refine TrL.op (ok_assign rfl (fun _ => rfl)) rfl rfl ?_
      refine TrL.fin ?_
      refine End.nxt ?_
      refine Tr.seq ?_
      refine Tr.rg ?_
      refine TrL.op (ok_move rfl (fun _ => rfl)) rfl rfl ?_
      refine TrL.op (ok_neq rfl (fun _ => rfl) rfl (fun _ => rfl)) rfl rfl ?_
      refine TrL.fin ?_
      refine End.nxt ?_
      refine Tr.cnd rfl ?_ ?_
      · intro h7
        replace h7 := of_decide_eq_true h7
        refine Tr.seq ?_
        refine Tr.rg ?_
        refine TrL.op (ok_move rfl (fun _ => rfl)) rfl rfl ?_
        refine TrL.op (ok_move rfl (fun _ => rfl)) rfl rfl ?_
        refine TrL.op (ok_eql rfl (fun _ => rfl) rfl (fun _ => rfl)) rfl rfl ?_
        refine TrL.op (ok_move rfl (fun _ => rfl)) rfl rfl ?_
        refine TrL.gd rfl rfl rfl (ok_move rfl (fun _ => rfl)) rfl rfl ?_
        refine TrL.gd rfl rfl rfl (ok_lenJ rfl id) rfl rfl ?_
        refine TrL.gd rfl rfl rfl (ok_eql rfl id rfl (fun _ => rfl)) rfl rfl ?_
        refine TrL.op (ok_and rfl (fun _ => rfl) rfl (fun hp h => gdT2 ((fun _ => rfl) hp) h)) rfl rfl ?_
        refine TrL.op (ok_assign rfl (fun _ => rfl)) rfl rfl ?_
        refine TrL.fin ?_
        refine End.nxt ?_
        refine Tr.ret ?_
        refine Rts.thn ?_
        exact Rts.res1 (fn := Try.f7) rfl (.b rfl (by simp [h7]) <| .nil)
      · intro h7
        replace h7 := Classical.not_not.1 (of_decide_eq_false h7)
        have v : Valid o := valid_of h7
        have hsl := sadL_len (o := o) (k := o.1.length)
        have hv2 := v.le
        refine Tr.skip ?_
        refine End.nxt ?_
        refine Tr.seq ?_
        refine Tr.rg ?_
        refine TrL.op (ok_ldBS rfl (fun _ => rfl)) rfl rfl ?_
        refine TrL.op (ok_call (fun hp => ct_rSaddles _ v) (.s rfl (fun _ => rfl) rfl <| .nil)) rfl rfl ?_
        refine TrL.op (ok_assign rfl (fun _ => rfl)) rfl rfl ?_
        refine TrL.fin ?_
        refine End.nxt ?_
        refine Tr.seq ?_
        refine Tr.seq ?_
        refine Tr.rg ?_
        refine TrL.op (ok_move rfl (fun _ => rfl)) rfl rfl ?_
        refine TrL.op (ok_neq rfl (fun _ => rfl) rfl (fun _ => rfl)) rfl rfl ?_
        refine TrL.op (ok_move rfl (fun _ => rfl)) rfl rfl ?_
        refine TrL.gd rfl rfl rfl (ok_move rfl (fun _ => rfl)) rfl rfl ?_
        refine TrL.gd rfl rfl rfl (ok_lenJ rfl id) rfl rfl ?_
        refine TrL.gd rfl rfl rfl (ok_move rfl (fun _ => rfl)) rfl rfl ?_
        refine TrL.gd rfl rfl rfl (ok_lenJ rfl id) rfl rfl ?_
        refine TrL.gd rfl rfl rfl (ok_neq rfl id rfl id) rfl rfl ?_
        refine TrL.op (ok_or rfl (fun _ => rfl) rfl (fun hp h => gdF2 ((fun _ => rfl) hp) h)) rfl rfl ?_
        refine TrL.fin ?_
        refine End.nxt ?_
        refine Tr.cnd rfl ?_ ?_
        · intro h10
          simp [h7] at h10
        · intro h10
          rw [if_pos h7] at *
          refine Tr.skip ?_
          refine End.nxt ?_
          refine Tr.seq ?_
          refine Tr.seq ?_
          refine Tr.rg ?_
          refine TrL.op (ok_assign rfl (fun _ => rfl)) rfl rfl ?_
          refine TrL.fin ?_
          refine End.nxt ?_
          refine Tr.for1 (σ := Nat) [⟨3, true, _, _⟩, ⟨6, true, _, _⟩] [] (fun k => [⟨7, true, [], kI (k : Int)⟩]) (fun k => []) (fun k => k ≤ (sadL o o.1.length).length) (fun k => k = (sadL o o.1.length).length) (fun k => (sadL o o.1.length).length - k) (0) (Nat.zero_le _) (Ent.mk (.i rfl (by first | rfl | omega | (simp; done) | (simp; omega) | assumption) <| .k rfl rfl <| .k rfl rfl <| .nil) (.nil) rfl) ?_ ?_
          · intro k hR0
            refine Tr.norm (S' := [⟨7, true, _, _⟩, ⟨3, true, _, _⟩, ⟨6, true, _, _⟩]) (M' := []) rfl rfl ?_
            refine Tr.seq ?_
            refine Tr.seq ?_
            refine Tr.rg ?_
            refine TrL.op (ok_move rfl (fun _ => rfl)) rfl rfl ?_
            refine TrL.op (ok_move rfl (fun _ => rfl)) rfl rfl ?_
            refine TrL.op (ok_lenJ rfl (fun _ => rfl)) rfl rfl ?_
            refine TrL.op (ok_lss rfl (fun _ => rfl) rfl (fun _ => rfl)) rfl rfl ?_
            refine TrL.fin ?_
            refine End.nxt ?_
            refine Tr.cnd rfl ?_ ?_
            · intro h13
              replace h13 := of_decide_eq_true h13
              refine Tr.skip ?_
              refine End.nxt ?_
              refine Tr.seq ?_
              refine Tr.blk ?_
              refine Tr.seq ?_
              refine Tr.draw 8 mixed (by kernel_rfl) ?_
              refine RunD.op (ok_move rfl (fun _ => rfl)) rfl rfl ?_
              refine RunD.op (ok_move rfl (fun _ => rfl)) rfl rfl ?_
              first | refine RunD.op (ok_idxN rfl (fun _ => rfl) rfl (fun _ => rfl) rfl (fun _ => by omega)) rfl rfl ?_ | refine RunD.op (ok_idxP rfl (fun _ => rfl) rfl (fun _ => rfl) rfl (fun _ => by omega)) rfl rfl ?_
              refine RunD.op (ok_ldPA rfl (fun _ => rfl) rfl rfl) rfl rfl ?_
              refine RunD.op (ok_move rfl (fun _ => rfl)) rfl rfl ?_
              refine RunD.op (ok_move rfl (fun _ => rfl)) rfl rfl ?_
              first | refine RunD.op (ok_idxN rfl (fun _ => rfl) rfl (fun _ => rfl) rfl (fun _ => by omega)) rfl rfl ?_ | refine RunD.op (ok_idxP rfl (fun _ => rfl) rfl (fun _ => rfl) rfl (fun _ => by omega)) rfl rfl ?_
              refine RunD.op (ok_ldPA rfl (fun _ => rfl) rfl rfl) rfl rfl ?_
              refine RunD.z ?_
              refine TrL.op (ok_neqSame (k := 6) rfl (fun _ => rfl) rfl (fun _ => rfl) rfl [(nth (sadL o o.1.length) k).1, (nth (sadL o o.1.length) k).2.1, (nth (sadL o o.1.length) k).2.2.1, (nth (sadL o o.1.length) k).2.2.2.1, (nth (sadL o o.1.length) k).2.2.2.2.1, (nth (sadL o o.1.length) k).2.2.2.2.2] rfl (fun _ _ h => sad_cells h)) rfl rfl ?_
              refine TrL.fin ?_
              refine End.nxt ?_
              refine Tr.cnd rfl ?_ ?_
              · intro h15
                simp at h15
              · intro h15
                refine Tr.skip ?_
                refine End.blk ?_
                refine End.nxt ?_
                refine Tr.rg ?_
                refine TrL.op (ok_move rfl (fun _ => rfl)) rfl rfl ?_
                refine TrL.op (ok_add rfl (fun _ => rfl) rfl (fun _ => rfl) (fun _ => by omega)) rfl rfl ?_
                refine TrL.op (ok_assign rfl (fun _ => rfl)) rfl rfl ?_
                refine TrL.fin ?_
                exact End.lp (k + 1) (by first | rfl | omega | (simp; done) | (simp; omega) | assumption) (by omega) (Ent.mk (.i rfl (by first | rfl | omega | (simp; done) | (simp; omega) | assumption) <| .k rfl rfl <| .k rfl rfl <| .nil) (.nil) rfl)
            · intro h13
              replace h13 := Int.not_lt.1 (of_decide_eq_false h13)
              refine Tr.exit ?_
              refine Exs.thn ?_
              refine Exs.thn ?_
              refine Exs.here ?_
              exact End.cut (k) (by omega) (Ent.mk (.i rfl (by first | rfl | omega | (simp; done) | (simp; omega) | assumption) <| .k rfl rfl <| .k rfl rfl <| .nil) (.nil) rfl)
          · rintro _ rfl
            refine End.norm (S' := [⟨7, true, _, _⟩, ⟨3, true, _, _⟩, ⟨6, true, _, _⟩]) (M' := []) rfl rfl ?_
            refine End.nxt ?_
            refine Tr.seq ?_
            refine Tr.rg ?_
            refine TrL.op (ok_assign rfl (fun _ => rfl)) rfl rfl ?_
            refine TrL.fin ?_
            refine End.nxt ?_
            refine Tr.ret ?_
            exact Rts.res1 (fn := Try.f7) rfl (.b rfl (by first | rfl | omega | (simp; done) | (simp; omega) | assumption) <| .nil)

end Go.Fl

/- A row of the call's own may be lent to a call that only reads; regions that draw their order, some of whose operations write: what yields the same in any world may come first, the rest is gone through as it may come up. No program in sight. -/
namespace Go.Fl
open Go Go.RowKit

/-! ### 1. Lending -/
class KFree (k : Know) : Prop where
  go : ∀ {g g' : Gh} {v : Value}, k g v → k g' v
instance {v : Value} : KFree (kDet v) := ⟨fun h => h⟩
theorem allK_mono {J J' : JV} (hJ : J.le J') : ∀ {ks : List Know} {vs : List Value}, (∀ k ∈ ks, KDep k []) → allK ⟨J, noM⟩ ks vs → allK ⟨J', noM⟩ ks vs
  | [], [], _, _ => trivial
  | [], _ :: _, _, h => h.elim
  | _ :: _, [], _, h => h.elim
  | k :: ks, v :: vs, hk, h => ⟨(hk k List.mem_cons_self).dep (g := ⟨J, noM⟩) hJ (fun _ h => by cases h) h.1, allK_mono hJ (fun x hx => hk x (List.mem_cons_of_mem _ hx)) h.2⟩
section
variable {P : Program} {c : Ctx} {S : Slots} {M : Conts} {p : Bool} {d : Option Tmp} {ty : TypeId} {pos : String} {af : Array Edge} {gd : Option (Nat × Bool)}
variable {x y z : Operand} {b b' b'' : Bool}
/-- The first argument is a row of the call's own; f reads it, and returns what hangs on no memory. -/
theorem ok_lend {f : FuncId} [hf : TyFn P f] {args : List Operand} {tys : Array TypeId} {ks : List Know} {res : Know} {u len : Nat} {α : Type} {zb : Bool} {et : TypeId} {e : Enc α} {xs : List α} {dep : List Nat} [hl : LkM M u (cArr zb et e xs len) dep]
    (hct : p = true → Ct P f (kRd (eL e) xs :: ks) res) (hx : opK S x = some (b, kOsl u len)) (hb : p = true → b = true) (hlen : p = true → len ≤ lenMax) (ha : ArgsOk S p args ks) [hj : AllJ ks] [hk : KDep res []] [hfr : KFree res] :
    OpOk P c S M ⟨d, .call { callee := .value (.func f), args := (x :: args).toArray, argTypes := tys }, ty, pos, af, gd⟩ p res none := by
  intro hp a g w hok hc ho _
  have hargs := ha.eval (g := g) (ρ := a.eval) hp (fun y hy b k hk hb => ho y (by simp [Op.operands, Call.operands, hy]) b k hk hb)
  have hxv : kOsl u len g (a.eval x) := ho x (by simp [Op.operands, Call.operands]) b _ hx (hb hp)
  obtain ⟨bk, hm, h0, h1⟩ := hc _ hl.mem
  simp only at hm h0
  have key : ∃ J' : JV, g.J.le J' ∧ Im J' w ∧ (kRd (eL e) xs) ⟨J', noM⟩ (a.eval x) ∧ ∀ J2 : JV, J'.le J2 → (∀ b o, b < w.heap.size → J2 b o = J' b o) → ∃ J3 : JV, g.J.le J3 ∧ (∀ b o, b < w.heap.size → J3 b o = g.J b o) ∧ ∀ w', Im J2 w' → Im J3 w' := by
    cases bk with
    | nil =>
      subst h1
      have hxs : xs = [] := List.eq_nil_of_length_eq_zero h0
      subst hxs
      refine ⟨g.J, JV.le_refl _, hok.im, ?_, fun J2 h2 h3 => ⟨J2, h2, h3, fun _ h => h⟩⟩
      rcases hxv with ⟨_, _, hv⟩ | ⟨b, cap, hb, _⟩
      · exact ⟨_, rd_nil, hv⟩
      · rw [hm] at hb; cases hb
    | blk bl cap =>
      obtain ⟨_, cs, h3, h4, h5, h6, h7⟩ := h1
      have hnone := (hok.own u bl cap hm).2.2
      have hJ : g.J.le (g.J.with bl cs) := JV.le_with hnone
      refine ⟨g.J.with bl cs, hJ, fun b o v hv => ?_, ?_, fun J2 h2 h3' => ⟨fun b o => if b = bl then none else J2 b o, fun b o v hv => ?_, fun b o hlt => ?_, fun w' him b o v hv => ?_⟩⟩
      · unfold JV.with at hv
        by_cases e : b = bl
        · rw [if_pos e] at hv; subst e; exact cell_own h3 hv
        · rw [if_neg e] at hv; exact hok.im b o v hv
      · rcases hxv with ⟨hb, _⟩ | ⟨b', cap', hb, hv⟩
        · rw [hm] at hb; cases hb
        · rw [hm] at hb; cases hb
          refine ⟨_, ⟨some ⟨bl, 0, none⟩, cap, rfl, by rw [h0]; exact hlen hp, .inr ⟨bl, 0, rfl, fun i x hx => ?_⟩⟩, by rw [h0]; exact hv⟩
          obtain ⟨ds, q1, q2⟩ := h7 i x hx
          refine ⟨ds, e.mono hJ q1, fun j v hj => ?_⟩
          show (g.J.with bl cs) bl (0 + i * e.n + j) = some v
          unfold JV.with
          rw [if_pos rfl, Nat.zero_add]
          exact q2 j v hj
      · have hne : b ≠ bl := fun e => by subst e; rw [hnone o] at hv; cases hv
        simp only [if_neg hne]
        exact h2 _ _ _ (hJ _ _ _ hv)
      · by_cases e : b = bl
        · subst e; simp only [if_true]; exact (hnone o).symm
        · simp only [if_neg e]
          rw [h3' b o hlt]
          unfold JV.with
          rw [if_neg e]
      · by_cases e : b = bl
        · simp only [if_pos e] at hv; cases hv
        · simp only [if_neg e] at hv; exact him b o v hv
  obtain ⟨J', hJ, him, hrd, hback⟩ := key
  have hr := hct hp w J' him (a.eval x :: args.map a.eval) ⟨hrd, allK_mono hJ hj.all hargs⟩
  unfold Oper.wp
  simp only [execOp, resolve, Act.eval, Deferred.ofValue, Sem.run_bind, Sem.run_pure, Result.andThen_ok, invoke, List.map_toArray, List.map_cons, Array.append_empty, Array.empty_append]
  rw [hf.run]
  simp only [Oper.upon]
  refine hr.mono fun e' w' he => ?_
  obtain ⟨r, J2, rfl, hbel, hJ2, hold, him2, hres⟩ := he
  obtain ⟨J3, q1, q2, q3⟩ := hback J2 hJ2 hold
  exact ⟨r, _, rfl, Did.call hok hbel q1 q2 (q3 _ him2) (hfr.go (g' := ⟨J3, noM⟩) hres)⟩
end

/-! ### 2. Any order, gone through -/
def onlyN (Q : Exit → Act → World → Prop) : Exit → Act → World → Prop := fun e a w => e = .normal ∧ Q .normal a w
def Nx (K : Act → World → Prop) : Exit → Act → World → Prop := fun e a w => e = .normal ∧ K a w
def TrA (P : Program) (c : Ctx) (ops : Array Oper) (Q : Exit → Act → World → Prop) (Sp : World → Prop) (n : Nat) (listed : Array Bool) (S : Slots) (M : Conts) : Prop :=
  ∀ a g w, Sat c S M a g w → Sp w → wpAnyH P .any ops (onlyN Q) Sp n listed a w
/-- The operation yields one value in every world that meets Sp. -/
def YOk (P : Program) (c : Ctx) (S : Slots) (M : Conts) (Sp : World → Prop) (o : Oper) (k : Know) : Prop :=
  ∀ a g w, Sat c S M a g w → Sp w → ∃ v, (∀ w', Sp w' → (execOp a.eval o).run P w' = .ok (.value v) w') ∧ k g v
theorem Oper.wp_onN {P : Program} {o : Oper} {a : Act} {w : World} {K K' : Act → World → Prop} {Q : Exit → Act → World → Prop}
    (h : o.wp P a w K (Nx K')) : o.wp P a w K Q := by
  unfold Oper.wp at *
  generalize (execOp a.eval o).run P w = r at *
  cases r with
  | ok n w' =>
    cases n <;> simp only [Oper.upon] at h ⊢ <;>
      first
        | exact h
        | exact Calls.mono h (fun e w'' he => by
            cases e with
            | returned v => exact he
            | panicked ch => exact absurd he.1 (by simp)
            | outgrown => obtain ⟨_, _, hf⟩ := he; exact absurd hf.1 (by simp))
        | exact Rows.mono h (fun _ _ he => he)
        | exact absurd h.1 (by simp)
  | halt x w' =>
    cases x <;> simp only [Oper.upon] at h ⊢ <;> first | exact absurd h.1 (by simp) | exact h
section
variable {P : Program} {c : Ctx} {ops : Array Oper} {S : Slots} {M : Conts} {Q : Exit → Act → World → Prop} {Sp : World → Prop} {n : Nat} {listed : Array Bool}
variable {d : Nat} {oop : Op} {ty : TypeId} {pos : String} {af : Array Edge}
theorem TrA.take (i : Nat) (listed' : Array Bool) {k : Know} {dep : List Nat} (hs : Region.noSelect ops = true) (hf : Region.free .any ops listed i = true) (hr : (Region.ready .any ops listed).contains i = true) (hset : listed.setIfInBounds i true = listed')
    (hi : ops[i]? = some ⟨some d, oop, ty, pos, af, none⟩) (hy : YOk P c S M Sp ⟨some d, oop, ty, pos, af, none⟩ k) [hk : KDep k dep] (hsub : subT dep (tags M) = true) (hn : Nat.blt d c.n = true)
    (K : TrA P c ops Q Sp n listed' (⟨d, true, dep, k⟩ :: S) M) : TrA P c ops Q Sp (n + 1) listed S M := by
  intro a g w hsat hsp
  obtain ⟨v, h1, h2⟩ := hy a g w hsat hsp
  refine wpAnyH_take hi hs hf hr (fun _ _ _ h => absurd h.1 (by simp)) (.inl ⟨rfl, h1⟩) hsp ?_
  rw [hset]
  exact K _ g _ (hsat.did (Did.same hsat.ok h2) (fun _ h => by cases h) hk (subT_spec hsub) (by simpa [Nat.blt_eq] using hn)) hsp
theorem TrA.all (rs : List Nat) (hr : Region.ready .any ops listed = rs) (hne : rs ≠ [])
    (h : ∀ i ∈ rs, ∃ o, ops[i]? = some o ∧ TrL P c ops S M [o] (Nx fun a w => Sp w ∧ wpAnyH P .any ops (onlyN Q) Sp n (listed.setIfInBounds i true) a w)) : TrA P c ops Q Sp (n + 1) listed S M := by
  intro a g w hsat _
  refine wpAnyH_all hr hne fun i hi => ?_
  obtain ⟨o, ho, ht⟩ := h i hi
  have h1 := ht a g w hsat
  unfold wpOp
  rw [ho]
  simp only [wpList] at h1
  simp only
  split
  · rename_i hw
    rw [if_pos hw] at h1
    rcases h1 with h1 | ⟨_, _, _, h1⟩
    · exact .inl (Oper.wp_mono (fun _ _ h => h.2) (Oper.wp_onN h1))
    · exact absurd h1.1 (by simp)
  · rename_i hw
    rw [if_neg hw] at h1
    exact h1.2
theorem TrA.one (i : Nat) (hr : Region.ready .any ops listed = [i]) {o : Oper} (ho : ops[i]? = some o)
    (h : TrL P c ops S M [o] (Nx fun a w => Sp w ∧ wpAnyH P .any ops (onlyN Q) Sp n (listed.setIfInBounds i true) a w)) : TrA P c ops Q Sp (n + 1) listed S M :=
  TrA.all [i] hr (by simp) (fun j hj => by rw [List.mem_singleton] at hj; subst hj; exact ⟨o, ho, h⟩)
theorem TrA.k {listed0 : Array Bool} (listed' : Array Bool) (hl : listed0 = listed') (hSp : ∀ a g w, Sat c S M a g w → Sp w) (K : TrA P c ops Q Sp n listed' S M) : TrL P c ops S M [] (Nx fun a w => Sp w ∧ wpAnyH P .any ops (onlyN Q) Sp n listed0 a w) :=
  fun a g w hs => wpList_nil ⟨rfl, hSp a g w hs, by rw [hl]; exact K a g w hs (hSp a g w hs)⟩
theorem TrA.done (hr : Region.ready .any ops listed = []) (h : End c S M Q) : TrA P c ops Q Sp n listed S M := fun a g w hs _ => wpAnyH_done hr ⟨rfl, h a g w hs⟩ n
/-- A region that draws: from the first operation on. -/
theorem Tr.drawA {l : List Oper} {id : Nat} (hm : P.follows .mixedOrders = true) (listed' : Array Bool) (hl : Array.replicate l.length false = listed') (h : TrA P c l.toArray Q (fun _ => True) l.length listed' S M) : Tr P c S M (.region id l.toArray true) Q := by
  intro a g w hs
  subst hl
  exact Code.wp_mono (Q := onlyN Q) (fun e _ _ q => by obtain ⟨he, h⟩ := q; subst he; exact h) (wp_region_held hm (by simpa using h _ _ _ hs.drew trivial))
/-! ### 3. Blocks that nobody writes -/
def cPin (ct : Cont) (q : Bk × Option Obj) : Cont := fun g bk o => ct g bk o ∧ bk = q.1 ∧ o = q.2
instance {ct : Cont} {q : Bk × Option Obj} {dep : List Nat} [h : CDep ct dep] : CDep (cPin ct q) dep := ⟨fun hl hd ⟨h1, h2⟩ => ⟨h.dep hl hd h1, h2⟩⟩
def pinM (f : Nat → Bk × Option Obj) (M : Conts) : Conts := M.map fun e => ⟨e.t, e.dep, cPin e.c (f e.t)⟩
def pinS (f : Nat → Bk × Option Obj) (M : Conts) : World → Prop := fun w => ∀ e ∈ M, World.objAt w (f e.t).1 = (f e.t).2
theorem pinS_of {f : Nat → Bk × Option Obj} {M N : Conts} (h : ∀ e ∈ pinM f M, e ∈ N) : ∀ a g w, Sat c S N a g w → pinS f M w := by
  intro a g w hs e he
  obtain ⟨bk, _, _, h2, h3⟩ := hs.conts _ (h _ (List.mem_map.2 ⟨e, he, rfl⟩))
  rw [← h2]; exact h3
theorem tags_pinM {f : Nat → Bk × Option Obj} {M : Conts} : tags (pinM f M) = tags M := by simp [tags, pinM]
theorem Sat.pin {a : Act} {g : Gh} {w : World} (h : Sat c S M a g w) : ∃ f, Sat c S (pinM f M) a g w := by
  refine ⟨fun t => ((g.M t).getD .nil, World.objAt w ((g.M t).getD .nil)), h.ok, h.slots, fun e he => ?_, fun t ht => ?_, ?_, fun e he => ?_, fun e he => ?_, h.defers, h.size⟩
  · obtain ⟨e0, he0, rfl⟩ := List.mem_map.1 he
    obtain ⟨bk, h1, h2⟩ := h.conts e0 he0
    refine ⟨bk, h1, h2, ?_, ?_⟩
    · show bk = (g.M e0.t).getD .nil
      rw [h1]; rfl
    · show _ = World.objAt w ((g.M e0.t).getD .nil)
      rw [h1]; rfl
  · have := h.dom t ht
    show t ∈ tags (pinM _ M)
    rw [tags_pinM]; exact this
  · show (tags (pinM _ M)).Nodup
    rw [tags_pinM]; exact h.nodup
  · refine ⟨(h.sdep e he).1, fun t ht => ?_⟩
    show t ∈ tags (pinM _ M)
    rw [tags_pinM]; exact (h.sdep e he).2 t ht
  · obtain ⟨e0, he0, rfl⟩ := List.mem_map.1 he
    refine ⟨⟨fun hl hd ⟨h1, h2⟩ => ⟨(h.cdep e0 he0).1.dep hl hd h1, h2⟩⟩, fun t ht => ?_⟩
    show t ∈ tags (pinM _ M)
    rw [tags_pinM]; exact (h.cdep e0 he0).2 t ht
/-- The same, where the blocks at hand are not written within the region. -/
theorem Tr.drawP {l : List Oper} {id : Nat} (hm : P.follows .mixedOrders = true) (listed' : Array Bool) (hl : Array.replicate l.length false = listed') (h : ∀ f, TrA P c l.toArray Q (pinS f M) l.length listed' S (pinM f M)) : Tr P c S M (.region id l.toArray true) Q := by
  intro a g w hs
  subst hl
  obtain ⟨f, hf⟩ := hs.drew.pin
  exact Code.wp_mono (Q := onlyN Q) (fun e _ _ q => by obtain ⟨he, h⟩ := q; subst he; exact h) (wp_region_held hm (by simpa using h f _ _ _ hf (pinS_of (fun _ h => h) _ _ _ hf)))
end

/-! ### 4. What yields the same in any world -/
section
variable {P : Program} {c : Ctx} {S : Slots} {M : Conts} {Sp : World → Prop} {d : Option Tmp} {ty : TypeId} {pos : String} {af : Array Edge} {gd : Option (Nat × Bool)} {x y : Operand}
theorem y_move {k : Know} (hx : opK S x = some (true, k)) : YOk P c S M Sp ⟨d, .move x, ty, pos, af, gd⟩ k :=
  fun a g _ hs _ => ⟨a.eval x, fun _ _ => by simp [execOp], opK_holds hs.slots hx rfl⟩
theorem y_assign {k : Know} (hx : opK S x = some (true, k)) : YOk P c S M Sp ⟨d, .assign x, ty, pos, af, gd⟩ k :=
  fun a g _ hs _ => ⟨a.eval x, fun _ _ => by simp [execOp], opK_holds hs.slots hx rfl⟩
theorem y_bin {op : BinOp} {t t' : TypeId} {u v r : Value} (hr : ∀ w, (do eqGuard op t x y u v; binOp op t u v : Sem Value).run P w = .ok r w) (hx : opK S x = some (true, kDet u)) (hy : opK S y = some (true, kDet v)) :
    YOk P c S M Sp ⟨d, .binOp op t x y t', ty, pos, af, gd⟩ (kDet r) := fun a g _ hs _ => by
  have h1 : a.eval x = u := opK_holds hs.slots hx rfl
  have h2 : a.eval y = v := opK_holds hs.slots hy rfl
  refine ⟨r, fun w _ => ?_, rfl⟩
  have := hr w
  simp only [Sem.run_bind] at this
  simp only [execOp, h1, h2, Sem.run_bind, this, Result.andThen_ok, Sem.run_pure]
theorem y_add {t t' : TypeId} {m n : Int} (hx : opK S x = some (true, kI m)) (hy : opK S y = some (true, kI n)) (h : -9223372036854775808 ≤ m + n ∧ m + n ≤ 9223372036854775807) : YOk P c S M Sp ⟨d, .binOp .add t x y t', ty, pos, af, gd⟩ (kI (m + n)) :=
  y_bin (fun w => by simp [go_sem, IntWalk.i64_in _ h]) hx hy
theorem y_sub {t t' : TypeId} {m n : Int} (hx : opK S x = some (true, kI m)) (hy : opK S y = some (true, kI n)) (h : -9223372036854775808 ≤ m - n ∧ m - n ≤ 9223372036854775807) : YOk P c S M Sp ⟨d, .binOp .sub t x y t', ty, pos, af, gd⟩ (kI (m - n)) :=
  y_bin (fun w => by simp [go_sem, IntWalk.i64_in _ h]) hx hy
theorem y_mul {t t' : TypeId} {m n : Int} (hx : opK S x = some (true, kI m)) (hy : opK S y = some (true, kI n)) (h : -9223372036854775808 ≤ m * n ∧ m * n ≤ 9223372036854775807) : YOk P c S M Sp ⟨d, .binOp .mul t x y t', ty, pos, af, gd⟩ (kI (m * n)) :=
  y_bin (fun w => by simp [go_sem, IntWalk.i64_in _ h]) hx hy
theorem y_fldO {s : TypeId} {f off : Nat} [ht : TyFld P s f off] {t o : Nat} (hx : opK S x = some (true, kOwn t o)) : YOk P c S M Sp ⟨d, .fieldAddr s x f, ty, pos, af, gd⟩ (kOwn t (o + off)) := fun a g _ hs _ => by
  obtain ⟨bl, cap, h1, h2⟩ := opK_holds hs.slots hx rfl
  exact ⟨.pointer (some ⟨bl, o + off, none⟩), fun _ _ => by simp [execOp, h2, ht.run, Addr.add_lit], bl, cap, h1, rfl⟩
theorem y_nil {u o : Nat} (hx : opK S x = some (true, kOwn u o)) : YOk P c S M Sp ⟨d, .nilCheck x, ty, pos, af, gd⟩ (kOwn u o) := fun a g _ hs _ => by
  obtain ⟨bl, cap, h1, h2⟩ := opK_holds hs.slots hx rfl
  exact ⟨_, fun _ _ => by simp [execOp, h2], bl, cap, h1, rfl⟩
theorem y_idxE {t et : TypeId} [ht : TySl P t et] {sz by' : Nat} {zz : Value} [hz : TySz P et sz by' zz] {u len : Nat} {ik : IntKind} {i : Nat} (hx : opK S x = some (true, kOsl u len)) (hy : opK S y = some (true, kInt ik (i : Int))) (h : i < len) :
    YOk P c S M Sp ⟨d, .indexAddr t x y, ty, pos, af, gd⟩ (kEl u sz i len) := fun a g _ hs _ => by
  have hi : a.eval y = _ := opK_holds hs.slots hy rfl
  rcases opK_holds hs.slots hx rfl with ⟨_, h0, _⟩ | ⟨bk, cap, h1, h2⟩
  · omega
  · have hlt : 0 ≤ (i : Int) ∧ (i : Int) < len := by omega
    exact ⟨.pointer (some ⟨bk, 0 + i * sz, none⟩), fun _ _ => by simp only [execOp, h2, hi, Sem.run_bind, idx_run (P := P) hlt, Result.andThen_ok, Sem.run_pure, Int.toNat_natCast], h, bk, cap, h1, by simp⟩
/-- A cell of a block that nobody writes here. -/
theorem y_ldP {t : TypeId} [ht : TyLeaf P t] {u o : Nat} {ks : List Know} {dep : List Nat} {f : Nat → Bk × Option Obj} {M0 : Conts} [hl0 : LkM M0 u (cBlk ks) dep] [hl : LkM M u (cPin (cBlk ks) (f u)) dep] {k : Know} (hx : opK S x = some (true, kOwn u o)) (hk : ks[o]? = some k) :
    YOk P c S M (pinS f M0) ⟨d, .load t x, ty, pos, af, gd⟩ k := fun a g w hs hsp => by
  obtain ⟨bl, cap, h1, h2⟩ := opK_holds hs.slots hx rfl
  obtain ⟨bk, q1, ⟨cs, tt, q2, q3⟩, q4, q5⟩ := hs.conts _ hl.mem
  simp only at q1 q4 q5
  rw [h1] at q1; cases q1
  obtain ⟨v, hv, hkv⟩ := allK_get q3 hk
  refine ⟨v, fun w' hw' => ?_, hkv⟩
  have hob : w'.heap[bl]? = some (.cells cs tt (0, 0)) := by
    have := hw' _ hl0.mem
    simp only at this
    rw [← q4, ← q5, q2] at this
    exact this
  simp only [execOp, h2, Sem.run_bind, run_loadAt_leaf (P := P) (t := t) (cell_own hob (by simpa using hv)), Result.andThen_ok, Sem.run_pure]
end
end Go.Fl

/- The search, one neighbour after the other. Plain Lean, no program in sight. -/
namespace Go.Fl
theorem srch_at {o : Ori} {F : List Int} {s : Int} {k j : Nat} (hk : k < (bfsTo o F s k).length) : nth (srch o F s k j) k = nth (bfsTo o F s k) k ∧ k < (srch o F s k j).length := by
  obtain ⟨r, hr⟩ := addL_pre (F := F) (ys := (stp o (nth (bfsTo o F s k) k)).take j) (l := bfsTo o F s k)
  unfold srch
  rw [hr]
  exact ⟨nth_app_l hk, by rw [List.length_append]; omega⟩
theorem reach_eq {o : Ori} {s : Int} : reach o s = bfs o [] s := rfl
end Go.Fl

/- Contracts: the labels of the reference; the law of labels. -/
namespace Go.Fl
open Go Go.Proofs

instance : NB 9 12 := ⟨rfl⟩
set_option maxRecDepth 100000 in
theorem ct_CopyIntsN (l : List Int) (hn : l.length ≤ 1000000) : CtN Try.prog 115 [kRd (eL eI) l] (fun t => kOsl t l.length) (cArr false 3 eI l l.length) := by
  refine CtN.mk Try.func115 rfl Try.ntmps115 rfl (fun w J => ?_)
  refine Tr.seq ?_
  refine Tr.rg ?_
  refine TrL.op (ok_assign rfl (fun _ => rfl)) rfl rfl ?_
  refine TrL.fin ?_
  refine End.nxt ?_
  refine Tr.seq ?_
  refine Tr.rg ?_
  refine TrL.new (ok_bsl0 eI 3) rfl rfl rfl rfl ?_
  refine TrL.op (ok_move rfl (fun _ => rfl)) rfl rfl ?_
  refine TrL.app rfl rfl rfl rfl rfl rfl rfl rfl (by first | omega | (simp only [List.length_cons, List.length_nil]; omega)) (by first | omega | (simp only [List.length_cons, List.length_nil]; omega)) ?_
  refine TrL.norm (S' := [⟨_, _, _, _⟩, ⟨_, _, _, _⟩, ⟨_, _, _, _⟩, ⟨_, _, _, _⟩, ⟨_, _, _, _⟩]) rfl rfl ?_
  refine TrL.op (ok_assign rfl (fun _ => rfl)) rfl rfl ?_
  refine TrL.fin ?_
  refine End.nxt ?_
  refine Tr.ret ?_
  exact Rts.resN (fn := Try.f115) (u := 3) rfl rfl (arr_res (by first | rfl | omega | (simp; done) | (simp; omega) | assumption) (by first | rfl | omega | (simp; done) | (simp; omega) | assumption)) (osl_res (by first | rfl | omega | (simp; done) | (simp; omega) | assumption)) inferInstance

set_option maxRecDepth 100000 in
theorem ct_rLess (a b : List Int) (hl : a.length = b.length) (hn : a.length ≤ 1000000) : Ct Try.prog 114 [kRd (eL eI) a, kRd (eL eI) b] (kB (lessL a b)) := by
  refine Ct.mk Try.func114 rfl Try.ntmps114 rfl (fun w J => ?_)
  refine Tr.seq ?_
  refine Tr.rg ?_
  refine TrL.op (ok_assign rfl (fun _ => rfl)) rfl rfl ?_
  refine TrL.fin ?_
  refine End.nxt ?_
  refine Tr.seq ?_
  refine Tr.seq ?_
  refine Tr.rg ?_
  refine TrL.op (ok_assign rfl (fun _ => rfl)) rfl rfl ?_
  refine TrL.fin ?_
  refine End.nxt ?_
  refine Tr.for1 (σ := Nat) [⟨0, true, _, _⟩, ⟨1, true, _, _⟩] [] (fun k => [⟨5, true, [], kI (k : Int)⟩]) (fun k => []) (fun k => k ≤ a.length ∧ ∀ i, i < k → nth a i = nth b i) (fun k => ∀ i, i < a.length → nth a i = nth b i) (fun k => a.length - k) (0) ⟨Nat.zero_le _, fun i h => absurd h (by omega)⟩ (Ent.mk (.i rfl (by first | rfl | omega | (simp; done) | (simp; omega) | assumption) <| .k rfl rfl <| .k rfl rfl <| .nil) (.nil) rfl) ?_ ?_
  · rintro k ⟨hk0, hR0⟩
    refine Tr.norm (S' := [⟨5, true, _, _⟩, ⟨0, true, _, _⟩, ⟨1, true, _, _⟩]) (M' := []) rfl rfl ?_
    refine Tr.seq ?_
    refine Tr.seq ?_
    refine Tr.rg ?_
    refine TrL.op (ok_move rfl (fun _ => rfl)) rfl rfl ?_
    refine TrL.op (ok_move rfl (fun _ => rfl)) rfl rfl ?_
    refine TrL.op (ok_lenJ rfl (fun _ => rfl)) rfl rfl ?_
    refine TrL.op (ok_lss rfl (fun _ => rfl) rfl (fun _ => rfl)) rfl rfl ?_
    refine TrL.fin ?_
    refine End.nxt ?_
    refine Tr.cnd rfl ?_ ?_
    · intro h2
      replace h2 := of_decide_eq_true h2
      refine Tr.skip ?_
      refine End.nxt ?_
      refine Tr.seq ?_
      refine Tr.blk ?_
      refine Tr.seq ?_
      refine Tr.draw 8 mixed (by kernel_rfl) ?_
      refine RunD.op (ok_move rfl (fun _ => rfl)) rfl rfl ?_
      refine RunD.op (ok_move rfl (fun _ => rfl)) rfl rfl ?_
      first | refine RunD.op (ok_idxN rfl (fun _ => rfl) rfl (fun _ => rfl) rfl (fun _ => by omega)) rfl rfl ?_ | refine RunD.op (ok_idxP rfl (fun _ => rfl) rfl (fun _ => rfl) rfl (fun _ => by omega)) rfl rfl ?_
      refine RunD.op (ok_ldP rfl (fun _ => rfl) rfl) rfl rfl ?_
      refine RunD.op (ok_move rfl (fun _ => rfl)) rfl rfl ?_
      refine RunD.op (ok_move rfl (fun _ => rfl)) rfl rfl ?_
      first | refine RunD.op (ok_idxN rfl (fun _ => rfl) rfl (fun _ => rfl) rfl (fun _ => by omega)) rfl rfl ?_ | refine RunD.op (ok_idxP rfl (fun _ => rfl) rfl (fun _ => rfl) rfl (fun _ => by omega)) rfl rfl ?_
      refine RunD.op (ok_ldP rfl (fun _ => rfl) rfl) rfl rfl ?_
      refine RunD.z ?_
      refine TrL.op (ok_neq rfl (fun _ => rfl) rfl (fun _ => rfl)) rfl rfl ?_
      refine TrL.fin ?_
      refine End.nxt ?_
      refine Tr.cnd rfl ?_ ?_
      · intro h4
        replace h4 := of_decide_eq_true h4
        refine Tr.seq ?_
        refine Tr.draw 8 mixed (by kernel_rfl) ?_
        refine RunD.op (ok_move rfl (fun _ => rfl)) rfl rfl ?_
        refine RunD.op (ok_move rfl (fun _ => rfl)) rfl rfl ?_
        first | refine RunD.op (ok_idxN rfl (fun _ => rfl) rfl (fun _ => rfl) rfl (fun _ => by omega)) rfl rfl ?_ | refine RunD.op (ok_idxP rfl (fun _ => rfl) rfl (fun _ => rfl) rfl (fun _ => by omega)) rfl rfl ?_
        refine RunD.op (ok_ldP rfl (fun _ => rfl) rfl) rfl rfl ?_
        refine RunD.op (ok_move rfl (fun _ => rfl)) rfl rfl ?_
        refine RunD.op (ok_move rfl (fun _ => rfl)) rfl rfl ?_
        first | refine RunD.op (ok_idxN rfl (fun _ => rfl) rfl (fun _ => rfl) rfl (fun _ => by omega)) rfl rfl ?_ | refine RunD.op (ok_idxP rfl (fun _ => rfl) rfl (fun _ => rfl) rfl (fun _ => by omega)) rfl rfl ?_
        refine RunD.op (ok_ldP rfl (fun _ => rfl) rfl) rfl rfl ?_
        refine RunD.z ?_
        refine TrL.op (ok_lss rfl (fun _ => rfl) rfl (fun _ => rfl)) rfl rfl ?_
        refine TrL.op (ok_assign rfl (fun _ => rfl)) rfl rfl ?_
        refine TrL.fin ?_
        refine End.nxt ?_
        refine Tr.ret ?_
        refine Rts.out ?_
        refine Rts.thn ?_
        refine Rts.thn ?_
        refine Rts.out ?_
        refine Rts.thn ?_
        refine Rts.thn ?_
        exact Rts.res1 (fn := Try.f114) rfl (.b rfl (lessL_at hl (by omega) (fun i hi => hR0 i hi) h4).symm <| .nil)
      · intro h4
        replace h4 := Classical.not_not.1 (of_decide_eq_false h4)
        refine Tr.skip ?_
        refine End.blk ?_
        refine End.nxt ?_
        refine Tr.rg ?_
        refine TrL.op (ok_move rfl (fun _ => rfl)) rfl rfl ?_
        refine TrL.op (ok_add rfl (fun _ => rfl) rfl (fun _ => rfl) (fun _ => by omega)) rfl rfl ?_
        refine TrL.op (ok_assign rfl (fun _ => rfl)) rfl rfl ?_
        refine TrL.fin ?_
        exact End.lp (k + 1) ⟨by omega, all_succ hR0 h4⟩ (by omega) (Ent.mk (.i rfl (by first | rfl | omega | (simp; done) | (simp; omega) | assumption) <| .k rfl rfl <| .k rfl rfl <| .nil) (.nil) rfl)
    · intro h2
      replace h2 := Int.not_lt.1 (of_decide_eq_false h2)
      refine Tr.exit ?_
      refine Exs.thn ?_
      refine Exs.thn ?_
      refine Exs.here ?_
      exact End.cut (k) (fun i hi => hR0 i (by omega)) (Ent.mk (.i rfl (by first | rfl | omega | (simp; done) | (simp; omega) | assumption) <| .k rfl rfl <| .k rfl rfl <| .nil) (.nil) rfl)
  · intro k hE0
    refine End.norm (S' := [⟨5, true, _, _⟩, ⟨0, true, _, _⟩, ⟨1, true, _, _⟩]) (M' := []) rfl rfl ?_
    refine End.nxt ?_
    refine Tr.seq ?_
    refine Tr.rg ?_
    refine TrL.op (ok_assign rfl (fun _ => rfl)) rfl rfl ?_
    refine TrL.fin ?_
    refine End.nxt ?_
    refine Tr.ret ?_
    exact Rts.res1 (fn := Try.f114) rfl (.b rfl (lessL_same hl (fun i hi => hE0 i hi)).symm <| .nil)

set_option maxRecDepth 100000 in
theorem ct_rBefore (a b : Ori) (h1 : a.1.length = b.1.length) (h2 : a.2.length = b.2.length) (hn : a.1.length ≤ 1000 ∧ a.2.length ≤ 1000) : Ct Try.prog 72 [kRd eO a, kRd eO b] (kB (lessL (a.1 ++ a.2) (b.1 ++ b.2))) := by
  refine Ct.mk Try.func72 rfl Try.ntmps72 rfl (fun w J => ?_)
  refine Tr.seq ?_
  refine Tr.rg ?_
  refine TrL.new (ok_box 2 rfl (fun _ => rfl) rfl) rfl rfl rfl rfl ?_
  refine TrL.new (ok_box 3 rfl (fun _ => rfl) rfl) rfl rfl rfl rfl ?_
  refine TrL.op (ok_assign rfl (fun _ => rfl)) rfl rfl ?_
  refine TrL.fin ?_
  refine End.nxt ?_
  refine Tr.seq ?_
  refine Tr.drawP mixed #[false, false, false, false, false, false, false, false, false, false, false, false, false, false] rfl fun f => ?_
  simp only [pinM, List.map_cons, List.map_nil]
  refine TrA.take 0 #[true, false, false, false, false, false, false, false, false, false, false, false, false, false] (by kernel_rfl) (by kernel_rfl) (by kernel_rfl) rfl rfl (y_fldO rfl) rfl rfl ?_
  refine TrA.take 1 #[true, true, false, false, false, false, false, false, false, false, false, false, false, false] (by kernel_rfl) (by kernel_rfl) (by kernel_rfl) rfl rfl (y_ldP rfl rfl) rfl rfl ?_
  refine TrA.take 3 #[true, true, false, true, false, false, false, false, false, false, false, false, false, false] (by kernel_rfl) (by kernel_rfl) (by kernel_rfl) rfl rfl (y_fldO rfl) rfl rfl ?_
  refine TrA.take 4 #[true, true, false, true, true, false, false, false, false, false, false, false, false, false] (by kernel_rfl) (by kernel_rfl) (by kernel_rfl) rfl rfl (y_ldP rfl rfl) rfl rfl ?_
  refine TrA.take 6 #[true, true, false, true, true, false, true, false, false, false, false, false, false, false] (by kernel_rfl) (by kernel_rfl) (by kernel_rfl) rfl rfl (y_fldO rfl) rfl rfl ?_
  refine TrA.take 7 #[true, true, false, true, true, false, true, true, false, false, false, false, false, false] (by kernel_rfl) (by kernel_rfl) (by kernel_rfl) rfl rfl (y_ldP rfl rfl) rfl rfl ?_
  refine TrA.take 9 #[true, true, false, true, true, false, true, true, false, true, false, false, false, false] (by kernel_rfl) (by kernel_rfl) (by kernel_rfl) rfl rfl (y_fldO rfl) rfl rfl ?_
  refine TrA.take 10 #[true, true, false, true, true, false, true, true, false, true, true, false, false, false] (by kernel_rfl) (by kernel_rfl) (by kernel_rfl) rfl rfl (y_ldP rfl rfl) rfl rfl ?_
  refine TrA.one 2 (by kernel_rfl) rfl ?_
  refine TrL.new (ok_callN 7 (fun hp => ct_CopyIntsN _ (by omega)) (.a rfl (fun _ => rfl) <| .nil)) rfl rfl rfl rfl ?_
  refine TrA.k #[true, true, true, true, true, false, true, true, false, true, true, false, false, false] rfl (pinS_of (by intro e he; simp only [pinM, List.map_cons, List.map_nil, List.mem_cons, List.not_mem_nil, or_false] at he; rcases he with rfl | rfl <;> simp)) ?_
  refine TrA.one 5 (by kernel_rfl) rfl ?_
  refine TrL.app rfl rfl rfl rfl rfl rfl rfl rfl (by first | omega | (simp only [List.length_cons, List.length_nil]; omega)) (by first | omega | (simp only [List.length_cons, List.length_nil]; omega)) ?_
  refine TrL.norm (S' := [⟨_, _, _, _⟩, ⟨_, _, _, _⟩, ⟨_, _, _, _⟩, ⟨_, _, _, _⟩, ⟨_, _, _, _⟩, ⟨_, _, _, _⟩, ⟨_, _, _, _⟩, ⟨_, _, _, _⟩, ⟨_, _, _, _⟩, ⟨_, _, _, _⟩, ⟨_, _, _, _⟩, ⟨_, _, _, _⟩, ⟨_, _, _, _⟩, ⟨_, _, _, _⟩, ⟨_, _, _, _⟩]) rfl rfl ?_
  refine TrA.k #[true, true, true, true, true, true, true, true, false, true, true, false, false, false] rfl (pinS_of (by intro e he; simp only [pinM, List.map_cons, List.map_nil, List.mem_cons, List.not_mem_nil, or_false] at he; rcases he with rfl | rfl <;> simp)) ?_
  refine TrA.one 8 (by kernel_rfl) rfl ?_
  refine TrL.new (ok_callN 13 (fun hp => ct_CopyIntsN _ (by omega)) (.a rfl (fun _ => rfl) <| .nil)) rfl rfl rfl rfl ?_
  refine TrA.k #[true, true, true, true, true, true, true, true, true, true, true, false, false, false] rfl (pinS_of (by intro e he; simp only [pinM, List.map_cons, List.map_nil, List.mem_cons, List.not_mem_nil, or_false] at he; rcases he with rfl | rfl <;> simp)) ?_
  refine TrA.one 11 (by kernel_rfl) rfl ?_
  refine TrL.app rfl rfl rfl rfl rfl rfl rfl rfl (by first | omega | (simp only [List.length_cons, List.length_nil]; omega)) (by first | omega | (simp only [List.length_cons, List.length_nil]; omega)) ?_
  refine TrL.norm (S' := [⟨_, _, _, _⟩, ⟨_, _, _, _⟩, ⟨_, _, _, _⟩, ⟨_, _, _, _⟩, ⟨_, _, _, _⟩, ⟨_, _, _, _⟩, ⟨_, _, _, _⟩, ⟨_, _, _, _⟩, ⟨_, _, _, _⟩, ⟨_, _, _, _⟩, ⟨_, _, _, _⟩, ⟨_, _, _, _⟩, ⟨_, _, _, _⟩, ⟨_, _, _, _⟩, ⟨_, _, _, _⟩, ⟨_, _, _, _⟩, ⟨_, _, _, _⟩]) rfl rfl ?_
  refine TrA.k #[true, true, true, true, true, true, true, true, true, true, true, true, false, false] rfl (pinS_of (by intro e he; simp only [pinM, List.map_cons, List.map_nil, List.mem_cons, List.not_mem_nil, or_false] at he; rcases he with rfl | rfl <;> simp)) ?_
  refine TrA.one 12 (by kernel_rfl) rfl ?_
  refine TrL.frz 7 [10] ⟨rfl, trivial⟩ (by simp only [lenMax]; omega) rfl ?_
  refine TrL.norm (S' := [⟨_, _, _, _⟩, ⟨_, _, _, _⟩, ⟨_, _, _, _⟩, ⟨_, _, _, _⟩, ⟨_, _, _, _⟩, ⟨_, _, _, _⟩, ⟨_, _, _, _⟩, ⟨_, _, _, _⟩, ⟨_, _, _, _⟩, ⟨_, _, _, _⟩, ⟨_, _, _, _⟩, ⟨_, _, _, _⟩, ⟨_, _, _, _⟩, ⟨_, _, _, _⟩, ⟨_, _, _, _⟩, ⟨_, _, _, _⟩, ⟨_, _, _, _⟩, ⟨_, _, _, _⟩]) rfl rfl ?_
  refine TrL.frz 13 [16] ⟨rfl, trivial⟩ (by simp only [lenMax]; omega) rfl ?_
  refine TrL.norm (S' := [⟨_, _, _, _⟩, ⟨_, _, _, _⟩, ⟨_, _, _, _⟩, ⟨_, _, _, _⟩, ⟨_, _, _, _⟩, ⟨_, _, _, _⟩, ⟨_, _, _, _⟩, ⟨_, _, _, _⟩, ⟨_, _, _, _⟩, ⟨_, _, _, _⟩, ⟨_, _, _, _⟩, ⟨_, _, _, _⟩, ⟨_, _, _, _⟩, ⟨_, _, _, _⟩, ⟨_, _, _, _⟩, ⟨_, _, _, _⟩, ⟨_, _, _, _⟩, ⟨_, _, _, _⟩, ⟨_, _, _, _⟩]) rfl rfl ?_
  refine TrL.op (ok_call (fun hp => ct_rLess _ _ (by simp only [List.length_append]; omega) (by simp only [List.length_append]; omega)) (.a rfl (fun _ => rfl) <| .a rfl (fun _ => rfl) <| .nil)) rfl rfl ?_
  refine TrA.k #[true, true, true, true, true, true, true, true, true, true, true, true, true, false] rfl (pinS_of (by intro e he; simp only [pinM, List.map_cons, List.map_nil, List.mem_cons, List.not_mem_nil, or_false] at he; rcases he with rfl | rfl <;> simp)) ?_
  refine TrA.one 13 (by kernel_rfl) rfl ?_
  refine TrL.op (ok_assign rfl (fun _ => rfl)) rfl rfl ?_
  refine TrA.k #[true, true, true, true, true, true, true, true, true, true, true, true, true, true] rfl (pinS_of (by intro e he; simp only [pinM, List.map_cons, List.map_nil, List.mem_cons, List.not_mem_nil, or_false] at he; rcases he with rfl | rfl <;> simp)) ?_
  refine TrA.done (by kernel_rfl) ?_
  refine End.nxt ?_
  refine Tr.ret ?_
  exact Rts.res1 (fn := Try.f72) rfl (.b rfl (by first | rfl | omega | (simp; done) | (simp; omega) | assumption) <| .nil)

set_option maxRecDepth 100000 in
theorem ct_rRenumber (o : Ori) (f : List Int) (v : Valid o) (hfl : f.length = o.1.length) (hfr : inR f o.1.length) : Ct Try.prog 73 [kRd eO o, kRd (eL eI) f] (kRd eO (renL o f)) := by
  have hv0 := v.pos
  have hv1 := v.len
  have hv2 := v.le
  refine Ct.mk Try.func73 rfl Try.ntmps73 rfl (fun w J => ?_)
  refine Tr.seq ?_
  refine Tr.rg ?_
  refine TrL.new (ok_box 2 rfl (fun _ => rfl) rfl) rfl rfl rfl rfl ?_
  refine TrL.new (ok_alloc 4) rfl rfl rfl rfl ?_
  refine TrL.fin ?_
  refine End.nxt ?_
  refine Tr.seq ?_
  refine Tr.draw 8 mixed (by kernel_rfl) ?_
  refine RunD.op (ok_ldBS rfl (fun _ => rfl)) rfl rfl ?_
  refine RunD.op (ok_call (fun hp => ct_rSize _) (.s rfl (fun _ => rfl) rfl <| .nil)) rfl rfl ?_
  refine RunD.new (ok_makeN eI 9 rfl (fun _ => rfl) rfl (fun _ => rfl) rfl rfl rfl (fun _ => by omega)) rfl rfl rfl rfl ?_
  refine RunD.op (ok_ldBS rfl (fun _ => rfl)) rfl rfl ?_
  refine RunD.op (ok_call (fun hp => ct_rSize _) (.s rfl (fun _ => rfl) rfl <| .nil)) rfl rfl ?_
  refine RunD.new (ok_makeN eI 12 rfl (fun _ => rfl) rfl (fun _ => rfl) rfl rfl rfl (fun _ => by omega)) rfl rfl rfl rfl ?_
  refine RunD.opN2 (u := 9) (v := 12) (ok_build (fun hp => .cons rfl rfl rfl <| .cons rfl rfl rfl <| .nil)) rfl rfl rfl ?_
  refine RunD.new (ok_alloc 5) rfl rfl rfl rfl ?_
  refine RunD.z ?_
  refine TrL.stB rfl rfl rfl rfl ?_
  refine TrL.fin ?_
  refine End.nxt ?_
  refine Tr.seq ?_
  refine Tr.seq ?_
  refine Tr.rg ?_
  refine TrL.op (ok_assign rfl (fun _ => rfl)) rfl rfl ?_
  refine TrL.fin ?_
  refine End.nxt ?_
  refine Tr.for1 (σ := Nat) [⟨1, true, _, _⟩, ⟨2, true, _, _⟩, ⟨4, true, _, _⟩, ⟨5, true, _, _⟩] [⟨2, _, _⟩, ⟨4, _, _⟩] (fun k => [⟨6, true, [], kI (k : Int)⟩]) (fun k => [⟨9, [], cArr false 3 eI (renTo o.1 f k) o.1.length⟩, ⟨12, [], cArr false 3 eI (renTo o.2 f k) o.1.length⟩, ⟨5, [9, 12], cBlk [kOsl 9 o.1.length, kOsl 12 o.1.length]⟩]) (fun k => k ≤ o.1.length) (fun k => k = o.1.length) (fun k => o.1.length - k) (0) (Nat.zero_le _) (Ent.mk (.i rfl (by first | rfl | omega | (simp; done) | (simp; omega) | assumption) <| .k rfl rfl <| .k rfl rfl <| .k rfl rfl <| .k rfl rfl <| .nil) (.a (by rw [renTo_zero, hfl]) (by first | rfl | omega | (simp; done) | (simp; omega) | assumption) <| .a (by rw [renTo_zero, hfl]) (by first | rfl | omega | (simp; done) | (simp; omega) | assumption) <| .k rfl <| .k rfl <| .k rfl <| .nil) rfl) ?_ ?_
  · intro k hR0
    refine Tr.norm (S' := [⟨6, true, _, _⟩, ⟨1, true, _, _⟩, ⟨2, true, _, _⟩, ⟨4, true, _, _⟩, ⟨5, true, _, _⟩]) (M' := [⟨9, _, _⟩, ⟨12, _, _⟩, ⟨5, _, _⟩, ⟨2, _, _⟩, ⟨4, _, _⟩]) rfl rfl ?_
    have hl1 := renTo_len (p := o.1) (f := f) (k := k)
    have hl2 := renTo_len (p := o.2) (f := f) (k := k)
    refine Tr.seq ?_
    refine Tr.seq ?_
    refine Tr.rg ?_
    refine TrL.op (ok_move rfl (fun _ => rfl)) rfl rfl ?_
    refine TrL.op (ok_ldBS rfl (fun _ => rfl)) rfl rfl ?_
    refine TrL.op (ok_call (fun hp => ct_rSize _) (.s rfl (fun _ => rfl) rfl <| .nil)) rfl rfl ?_
    refine TrL.op (ok_lss rfl (fun _ => rfl) rfl (fun _ => rfl)) rfl rfl ?_
    refine TrL.fin ?_
    refine End.nxt ?_
    refine Tr.cnd rfl ?_ ?_
    · intro h3
      replace h3 := of_decide_eq_true h3
      refine Tr.skip ?_
      refine End.nxt ?_
      refine Tr.seq ?_
      refine Tr.blk ?_
      refine Tr.seq ?_
      refine Tr.draw 14 mixed (by kernel_rfl) ?_
      have a1 := hfr k (by omega)
      have a2 := v.ri (i := k) (by omega)
      have a3 := v.ui (i := k) (by omega)
      have a4 := hfr (nth o.1 k).toNat (by omega)
      have a5 := hfr (nth o.2 k).toNat (by omega)
      refine RunD.op (ok_fldO rfl (fun _ => rfl)) rfl rfl ?_
      refine RunD.op (ok_ldB rfl (fun _ => rfl) rfl) rfl rfl ?_
      refine RunD.op (ok_move rfl (fun _ => rfl)) rfl rfl ?_
      refine RunD.op (ok_move rfl (fun _ => rfl)) rfl rfl ?_
      first | refine RunD.op (ok_idxN rfl (fun _ => rfl) rfl (fun _ => rfl) rfl (fun _ => by omega)) rfl rfl ?_ | refine RunD.op (ok_idxP rfl (fun _ => rfl) rfl (fun _ => rfl) rfl (fun _ => by omega)) rfl rfl ?_
      refine RunD.op (ok_ldP rfl (fun _ => rfl) rfl) rfl rfl ?_
      refine RunD.op (ok_move rfl (fun _ => rfl)) rfl rfl ?_
      refine RunD.op (ok_fldO rfl (fun _ => rfl)) rfl rfl ?_
      refine RunD.op (ok_ldB rfl (fun _ => rfl) rfl) rfl rfl ?_
      refine RunD.op (ok_move rfl (fun _ => rfl)) rfl rfl ?_
      first | refine RunD.op (ok_idxN rfl (fun _ => rfl) rfl (fun _ => rfl) rfl (fun _ => by omega)) rfl rfl ?_ | refine RunD.op (ok_idxP rfl (fun _ => rfl) rfl (fun _ => rfl) rfl (fun _ => by omega)) rfl rfl ?_
      refine RunD.op (ok_ldP rfl (fun _ => rfl) rfl) rfl rfl ?_
      first | refine RunD.op (ok_idxN rfl (fun _ => rfl) rfl (fun _ => rfl) rfl (fun _ => by omega)) rfl rfl ?_ | refine RunD.op (ok_idxP rfl (fun _ => rfl) rfl (fun _ => rfl) rfl (fun _ => by omega)) rfl rfl ?_
      refine RunD.op (ok_ldP rfl (fun _ => rfl) rfl) rfl rfl ?_
      refine RunD.z ?_
      first | refine TrL.op (ok_idxEN rfl (fun _ => rfl) rfl (fun _ => rfl) (fun _ => by omega)) rfl rfl ?_ | refine TrL.op (ok_idxE rfl (fun _ => rfl) rfl (fun _ => rfl) (fun _ => by omega)) rfl rfl ?_
      refine TrL.stE rfl rfl rfl rfl rfl ?_
      refine TrL.fin ?_
      refine End.nxt ?_
      refine Tr.draw 14 mixed (by kernel_rfl) ?_
      refine RunD.op (ok_fldO rfl (fun _ => rfl)) rfl rfl ?_
      refine RunD.op (ok_ldB rfl (fun _ => rfl) rfl) rfl rfl ?_
      refine RunD.op (ok_move rfl (fun _ => rfl)) rfl rfl ?_
      refine RunD.op (ok_move rfl (fun _ => rfl)) rfl rfl ?_
      first | refine RunD.op (ok_idxN rfl (fun _ => rfl) rfl (fun _ => rfl) rfl (fun _ => by omega)) rfl rfl ?_ | refine RunD.op (ok_idxP rfl (fun _ => rfl) rfl (fun _ => rfl) rfl (fun _ => by omega)) rfl rfl ?_
      refine RunD.op (ok_ldP rfl (fun _ => rfl) rfl) rfl rfl ?_
      refine RunD.op (ok_move rfl (fun _ => rfl)) rfl rfl ?_
      refine RunD.op (ok_fldO rfl (fun _ => rfl)) rfl rfl ?_
      refine RunD.op (ok_ldB rfl (fun _ => rfl) rfl) rfl rfl ?_
      refine RunD.op (ok_move rfl (fun _ => rfl)) rfl rfl ?_
      first | refine RunD.op (ok_idxN rfl (fun _ => rfl) rfl (fun _ => rfl) rfl (fun _ => by omega)) rfl rfl ?_ | refine RunD.op (ok_idxP rfl (fun _ => rfl) rfl (fun _ => rfl) rfl (fun _ => by omega)) rfl rfl ?_
      refine RunD.op (ok_ldP rfl (fun _ => rfl) rfl) rfl rfl ?_
      first | refine RunD.op (ok_idxN rfl (fun _ => rfl) rfl (fun _ => rfl) rfl (fun _ => by omega)) rfl rfl ?_ | refine RunD.op (ok_idxP rfl (fun _ => rfl) rfl (fun _ => rfl) rfl (fun _ => by omega)) rfl rfl ?_
      refine RunD.op (ok_ldP rfl (fun _ => rfl) rfl) rfl rfl ?_
      refine RunD.z ?_
      first | refine TrL.op (ok_idxEN rfl (fun _ => rfl) rfl (fun _ => rfl) (fun _ => by omega)) rfl rfl ?_ | refine TrL.op (ok_idxE rfl (fun _ => rfl) rfl (fun _ => rfl) (fun _ => by omega)) rfl rfl ?_
      refine TrL.stE rfl rfl rfl rfl rfl ?_
      refine TrL.fin ?_
      refine End.blk ?_
      refine End.nxt ?_
      refine Tr.rg ?_
      refine TrL.op (ok_move rfl (fun _ => rfl)) rfl rfl ?_
      refine TrL.op (ok_add rfl (fun _ => rfl) rfl (fun _ => rfl) (fun _ => by omega)) rfl rfl ?_
      refine TrL.op (ok_assign rfl (fun _ => rfl)) rfl rfl ?_
      refine TrL.fin ?_
      exact End.lp (k + 1) (by first | rfl | omega | (simp; done) | (simp; omega) | assumption) (by omega) (Ent.mk (.i rfl (by first | rfl | omega | (simp; done) | (simp; omega) | assumption) <| .k rfl rfl <| .k rfl rfl <| .k rfl rfl <| .k rfl rfl <| .nil) (.a renTo_succ.symm (by first | rfl | omega | (simp; done) | (simp; omega) | assumption) <| .a renTo_succ.symm (by first | rfl | omega | (simp; done) | (simp; omega) | assumption) <| .k rfl <| .k rfl <| .k rfl <| .nil) rfl)
    · intro h3
      replace h3 := Int.not_lt.1 (of_decide_eq_false h3)
      refine Tr.exit ?_
      refine Exs.thn ?_
      refine Exs.thn ?_
      refine Exs.here ?_
      exact End.cut (k) (by omega) (Ent.mk (.i rfl (by first | rfl | omega | (simp; done) | (simp; omega) | assumption) <| .k rfl rfl <| .k rfl rfl <| .k rfl rfl <| .k rfl rfl <| .nil) (.a (by first | rfl | omega | (simp; done) | (simp; omega) | assumption) (by first | rfl | omega | (simp; done) | (simp; omega) | assumption) <| .a (by first | rfl | omega | (simp; done) | (simp; omega) | assumption) (by first | rfl | omega | (simp; done) | (simp; omega) | assumption) <| .k rfl <| .k rfl <| .k rfl <| .nil) rfl)
  · rintro _ rfl
    refine End.norm (S' := [⟨6, true, _, _⟩, ⟨1, true, _, _⟩, ⟨2, true, _, _⟩, ⟨4, true, _, _⟩, ⟨5, true, _, _⟩]) (M' := [⟨9, _, _⟩, ⟨12, _, _⟩, ⟨5, _, _⟩, ⟨2, _, _⟩, ⟨4, _, _⟩]) rfl rfl ?_
    refine End.nxt ?_
    refine Tr.seq ?_
    refine Tr.rg ?_
    refine TrL.op (ok_ldBS rfl (fun _ => rfl)) rfl rfl ?_
    refine TrL.stB rfl rfl rfl rfl ?_
    refine TrL.fin ?_
    refine End.nxt ?_
    refine Tr.ent (S' := [⟨4, true, _, _⟩]) (M' := [⟨4, _, _⟩, ⟨9, _, _⟩, ⟨12, _, _⟩]) (Ent.mk (.k rfl rfl <| .nil) (.k rfl <| .k rfl <| .k rfl <| .nil) rfl) ?_
    refine Tr.frzC 9 4 (by simp only [lenMax]; omega) rfl rfl ?_
    refine Tr.frzC 12 4 (by simp only [lenMax]; omega) rfl rfl ?_
    refine Tr.ret ?_
    exact Rts.resC1 (fn := Try.f73) rfl rfl (aggRd rfl (by unfold renL; rw [hfl]))

set_option maxRecDepth 100000 in
theorem ct_rFrom (o : Ori) (s : Int) (v : Valid o) (cn : Conn o) (hs : Sq o.1.length s) : Ct Try.prog 71 [kRd eO o, kI s] (kRd (eL eI) (numL o s)) := by
  have hv0 := v.pos
  have hv1 := v.len
  have hv2 := v.le
  have hs0 := hs.1
  have hs1 := hs.2
  refine Ct.mk Try.func71 rfl Try.ntmps71 rfl (fun w J => ?_)
  refine Tr.seq ?_
  refine Tr.rg ?_
  refine TrL.new (ok_box 2 rfl (fun _ => rfl) rfl) rfl rfl rfl rfl ?_
  refine TrL.op (ok_assign rfl (fun _ => rfl)) rfl rfl ?_
  refine TrL.fin ?_
  refine End.nxt ?_
  refine Tr.seq ?_
  refine Tr.rg ?_
  refine TrL.op (ok_move rfl (fun _ => rfl)) rfl rfl ?_
  refine TrL.new (ok_bsl eI 10 (fun hp => .cons rfl <| .nil) rfl rfl rfl rfl) rfl rfl rfl rfl ?_
  refine TrL.op (ok_assign rfl (fun _ => rfl)) rfl rfl ?_
  refine TrL.fin ?_
  refine End.nxt ?_
  refine Tr.seq ?_
  refine Tr.seq ?_
  refine Tr.rg ?_
  refine TrL.op (ok_assign rfl (fun _ => rfl)) rfl rfl ?_
  refine TrL.fin ?_
  refine End.nxt ?_
  refine Tr.for1 (σ := Nat) [⟨2, true, _, _⟩] [⟨2, _, _⟩] (fun k => [⟨5, true, [10], kOsl 10 (bfsTo o [] s k).length⟩, ⟨6, true, [], kI (k : Int)⟩]) (fun k => [⟨10, [], cArr false 3 eI (bfsTo o [] s k) (bfsTo o [] s k).length⟩]) (fun k => k ≤ o.1.length) (fun k => (bfsTo o [] s k).length ≤ k) (fun k => o.1.length - k) (0) (Nat.zero_le _) (Ent.mk (.o rfl (by first | rfl | omega | (simp; done) | (simp; omega) | assumption) rfl <| .i rfl (by first | rfl | omega | (simp; done) | (simp; omega) | assumption) <| .k rfl rfl <| .nil) (.a (by first | rfl | omega | (simp; done) | (simp; omega) | assumption) (by first | rfl | omega | (simp; done) | (simp; omega) | assumption) <| .k rfl <| .nil) rfl) ?_ ?_
  · intro k hR0
    refine Tr.norm (S' := [⟨5, true, _, _⟩, ⟨6, true, _, _⟩, ⟨2, true, _, _⟩]) (M' := [⟨10, _, _⟩, ⟨2, _, _⟩]) rfl rfl ?_
    have hlen := bfsTo_len v (good1 hs) k
    refine Tr.seq ?_
    refine Tr.seq ?_
    refine Tr.rg ?_
    refine TrL.op (ok_move rfl (fun _ => rfl)) rfl rfl ?_
    refine TrL.op (ok_move rfl (fun _ => rfl)) rfl rfl ?_
    refine TrL.op (ok_lenO rfl (fun _ => rfl)) rfl rfl ?_
    refine TrL.op (ok_lss rfl (fun _ => rfl) rfl (fun _ => rfl)) rfl rfl ?_
    refine TrL.fin ?_
    refine End.nxt ?_
    refine Tr.cnd rfl ?_ ?_
    · intro h3
      replace h3 := of_decide_eq_true h3
      have hlt : k < (bfsTo o [] s k).length := by omega
      have hxr := srch_x v (good1 hs) hlt
      have hx0 := hxr.1
      have hx1 := hxr.2
      refine Tr.skip ?_
      refine End.nxt ?_
      refine Tr.seq ?_
      refine Tr.blk ?_
      refine Tr.meet2 (σ := Unit) [⟨2, true, _, _⟩, ⟨6, true, _, _⟩] [⟨2, _, _⟩] (.k rfl rfl <| .k rfl rfl <| .nil) (.k rfl <| .nil) (fun _ => [⟨5, true, [10], kOsl 10 (srch o [] s k 1).length⟩]) (fun _ => [⟨10, [], cArr false 3 eI (srch o [] s k 1) (srch o [] s k 1).length⟩]) (fun _ => True) ?_ ?_
      · skip
        refine Tr.seq ?_
        refine Tr.draw 6 mixed (by kernel_rfl) ?_
        refine RunD.op (ok_fldO rfl (fun _ => rfl)) rfl rfl ?_
        refine RunD.op (ok_ldB rfl (fun _ => rfl) rfl) rfl rfl ?_
        refine RunD.op (ok_move rfl (fun _ => rfl)) rfl rfl ?_
        refine RunD.op (ok_move rfl (fun _ => rfl)) rfl rfl ?_
        first | refine RunD.op (ok_idxEN rfl (fun _ => rfl) rfl (fun _ => rfl) (fun _ => by omega)) rfl rfl ?_ | refine RunD.op (ok_idxE rfl (fun _ => rfl) rfl (fun _ => rfl) (fun _ => by omega)) rfl rfl ?_
        refine RunD.op (ok_ldE rfl (fun _ => rfl) rfl rfl rfl) rfl rfl ?_
        refine RunD.z ?_
        first | refine TrL.op (ok_idxN rfl (fun _ => rfl) rfl (fun _ => rfl) rfl (fun _ => by omega)) rfl rfl ?_ | refine TrL.op (ok_idxP rfl (fun _ => rfl) rfl (fun _ => rfl) rfl (fun _ => by omega)) rfl rfl ?_
        refine TrL.op (ok_ldP rfl (fun _ => rfl) rfl) rfl rfl ?_
        refine TrL.op (ok_assign rfl (fun _ => rfl)) rfl rfl ?_
        refine TrL.fin ?_
        refine End.nxt ?_
        refine Tr.seq ?_
        refine Tr.rg ?_
        refine TrL.op (ok_move rfl (fun _ => rfl)) rfl rfl ?_
        refine TrL.op (ok_move rfl (fun _ => rfl)) rfl rfl ?_
        refine TrL.op (ok_lend (fun hp => ct_rAt _ _) rfl (fun _ => rfl) (fun _ => by simp only [lenMax]; omega) (.a rfl (fun _ => rfl) <| .nil)) rfl rfl ?_
        refine TrL.op (ok_lss rfl (fun _ => rfl) rfl (fun _ => rfl)) rfl rfl ?_
        refine TrL.fin ?_
        refine End.nxt ?_
        refine Tr.cnd rfl ?_ ?_
        · intro h6
          replace h6 := of_decide_eq_true h6
          have hnew := atL_neg.1 h6
          refine Tr.rg ?_
          refine TrL.op (ok_move rfl (fun _ => rfl)) rfl rfl ?_
          refine TrL.op (ok_move rfl (fun _ => rfl)) rfl rfl ?_
          refine TrL.new (ok_bsl eI 31 (fun hp => .cons rfl <| .nil) rfl rfl rfl rfl) rfl rfl rfl rfl ?_
          refine TrL.app rfl rfl rfl rfl rfl rfl rfl rfl (by first | omega | (simp only [List.length_cons, List.length_nil]; omega)) (by first | omega | (simp only [List.length_cons, List.length_nil]; omega)) ?_
          refine TrL.norm (S' := [⟨_, _, _, _⟩, ⟨_, _, _, _⟩, ⟨_, _, _, _⟩, ⟨_, _, _, _⟩, ⟨_, _, _, _⟩, ⟨_, _, _, _⟩, ⟨_, _, _, _⟩, ⟨_, _, _, _⟩, ⟨_, _, _, _⟩, ⟨_, _, _, _⟩, ⟨_, _, _, _⟩, ⟨_, _, _, _⟩, ⟨_, _, _, _⟩, ⟨_, _, _, _⟩, ⟨_, _, _, _⟩, ⟨_, _, _, _⟩, ⟨_, _, _, _⟩, ⟨_, _, _, _⟩, ⟨_, _, _, _⟩, ⟨_, _, _, _⟩, ⟨_, _, _, _⟩, ⟨_, _, _, _⟩, ⟨_, _, _, _⟩, ⟨_, _, _, _⟩]) rfl rfl ?_
          refine TrL.op (ok_assign rfl (fun _ => rfl)) rfl rfl ?_
          refine TrL.fin ?_
          exact End.cut (()) (by first | rfl | omega | (simp; done) | (simp; omega) | assumption) (Ent.mk (.o rfl (by rw [srch_new (F := []) (j := 0) (by omega) hnew, List.length_append]; rfl) rfl <| .k rfl rfl <| .k rfl rfl <| .nil) (.a (by rw [srch_new (F := []) (j := 0) (by omega) hnew]; rfl) (by rw [srch_new (F := []) (j := 0) (by omega) hnew, List.length_append]; rfl) <| .k rfl <| .nil) rfl)
        · intro h6
          replace h6 := Int.not_lt.1 (of_decide_eq_false h6)
          have hold := Classical.not_not.1 (fun hh => absurd (atL_neg.2 hh) (Int.not_lt.2 h6))
          refine Tr.skip ?_
          exact End.cut (()) (by first | rfl | omega | (simp; done) | (simp; omega) | assumption) (Ent.mk (.o rfl (by rw [srch_in (F := []) (j := 0) (by omega) hold]; rfl) rfl <| .k rfl rfl <| .k rfl rfl <| .nil) (.a (by rw [srch_in (F := []) (j := 0) (by omega) hold]; rfl) (by rw [srch_in (F := []) (j := 0) (by omega) hold]; rfl) <| .k rfl <| .nil) rfl)
      · intro _ hM
        refine Tr.norm (S' := [⟨5, true, _, _⟩, ⟨2, true, _, _⟩, ⟨6, true, _, _⟩]) (M' := [⟨10, _, _⟩, ⟨2, _, _⟩]) rfl rfl ?_
        obtain ⟨hn1, hn2⟩ := srch_at (j := 1) hlt
        have hgl := srch_len (j := 1) v (good1 hs) hlt
        have hx2 : 0 ≤ nth (srch o [] s k 1) k ∧ nth (srch o [] s k 1) k < o.1.length := by rw [hn1]; exact hxr
        refine Tr.seq ?_
        refine Tr.draw 6 mixed (by kernel_rfl) ?_
        refine RunD.op (ok_fldO rfl (fun _ => rfl)) rfl rfl ?_
        refine RunD.op (ok_ldB rfl (fun _ => rfl) rfl) rfl rfl ?_
        refine RunD.op (ok_move rfl (fun _ => rfl)) rfl rfl ?_
        refine RunD.op (ok_move rfl (fun _ => rfl)) rfl rfl ?_
        first | refine RunD.op (ok_idxEN rfl (fun _ => rfl) rfl (fun _ => rfl) (fun _ => by omega)) rfl rfl ?_ | refine RunD.op (ok_idxE rfl (fun _ => rfl) rfl (fun _ => rfl) (fun _ => by omega)) rfl rfl ?_
        refine RunD.op (ok_ldE rfl (fun _ => rfl) rfl rfl rfl) rfl rfl ?_
        refine RunD.z ?_
        first | refine TrL.op (ok_idxN rfl (fun _ => rfl) rfl (fun _ => rfl) rfl (fun _ => by omega)) rfl rfl ?_ | refine TrL.op (ok_idxP rfl (fun _ => rfl) rfl (fun _ => rfl) rfl (fun _ => by omega)) rfl rfl ?_
        refine TrL.op (ok_ldP rfl (fun _ => rfl) rfl) rfl rfl ?_
        refine TrL.op (ok_assign rfl (fun _ => rfl)) rfl rfl ?_
        refine TrL.fin ?_
        refine End.nxt ?_
        refine Tr.seq ?_
        refine Tr.rg ?_
        refine TrL.op (ok_move rfl (fun _ => rfl)) rfl rfl ?_
        refine TrL.op (ok_move rfl (fun _ => rfl)) rfl rfl ?_
        refine TrL.op (ok_lend (fun hp => ct_rAt _ _) rfl (fun _ => rfl) (fun _ => by simp only [lenMax]; omega) (.a rfl (fun _ => rfl) <| .nil)) rfl rfl ?_
        refine TrL.op (ok_lss rfl (fun _ => rfl) rfl (fun _ => rfl)) rfl rfl ?_
        refine TrL.fin ?_
        refine End.nxt ?_
        refine Tr.cnd rfl ?_ ?_
        · intro h9
          replace h9 := of_decide_eq_true h9
          rw [hn1] at h9
          have hnew2 := atL_neg.1 h9
          refine Tr.rg ?_
          refine TrL.op (ok_move rfl (fun _ => rfl)) rfl rfl ?_
          refine TrL.op (ok_move rfl (fun _ => rfl)) rfl rfl ?_
          refine TrL.new (ok_bsl eI 47 (fun hp => .cons rfl <| .nil) rfl rfl rfl rfl) rfl rfl rfl rfl ?_
          refine TrL.app rfl rfl rfl rfl rfl rfl rfl rfl (by first | omega | (simp only [List.length_cons, List.length_nil]; omega)) (by first | omega | (simp only [List.length_cons, List.length_nil]; omega)) ?_
          refine TrL.norm (S' := [⟨_, _, _, _⟩, ⟨_, _, _, _⟩, ⟨_, _, _, _⟩, ⟨_, _, _, _⟩, ⟨_, _, _, _⟩, ⟨_, _, _, _⟩, ⟨_, _, _, _⟩, ⟨_, _, _, _⟩, ⟨_, _, _, _⟩, ⟨_, _, _, _⟩, ⟨_, _, _, _⟩, ⟨_, _, _, _⟩, ⟨_, _, _, _⟩, ⟨_, _, _, _⟩, ⟨_, _, _, _⟩, ⟨_, _, _, _⟩, ⟨_, _, _, _⟩, ⟨_, _, _, _⟩, ⟨_, _, _, _⟩, ⟨_, _, _, _⟩]) rfl rfl ?_
          refine TrL.op (ok_assign rfl (fun _ => rfl)) rfl rfl ?_
          refine TrL.fin ?_
          refine End.blk ?_
          refine End.nxt ?_
          refine Tr.rg ?_
          refine TrL.op (ok_move rfl (fun _ => rfl)) rfl rfl ?_
          refine TrL.op (ok_add rfl (fun _ => rfl) rfl (fun _ => rfl) (fun _ => by omega)) rfl rfl ?_
          refine TrL.op (ok_assign rfl (fun _ => rfl)) rfl rfl ?_
          refine TrL.fin ?_
          exact End.lp (k + 1) (by first | rfl | omega | (simp; done) | (simp; omega) | assumption) (by omega) (Ent.mk (.o rfl (by rw [← srch_two hlt, srch_new (F := []) (j := 1) (by omega) hnew2, List.length_append]; rfl) rfl <| .i rfl (by first | rfl | omega | (simp; done) | (simp; omega) | assumption) <| .k rfl rfl <| .nil) (.a (by rw [hn1, ← srch_two hlt, srch_new (F := []) (j := 1) (by omega) hnew2]; rfl) (by rw [← srch_two hlt, srch_new (F := []) (j := 1) (by omega) hnew2, List.length_append]; rfl) <| .k rfl <| .nil) rfl)
        · intro h9
          replace h9 := Int.not_lt.1 (of_decide_eq_false h9)
          rw [hn1] at h9
          have hold2 := Classical.not_not.1 (fun hh => absurd (atL_neg.2 hh) (Int.not_lt.2 h9))
          refine Tr.skip ?_
          refine End.blk ?_
          refine End.nxt ?_
          refine Tr.rg ?_
          refine TrL.op (ok_move rfl (fun _ => rfl)) rfl rfl ?_
          refine TrL.op (ok_add rfl (fun _ => rfl) rfl (fun _ => rfl) (fun _ => by omega)) rfl rfl ?_
          refine TrL.op (ok_assign rfl (fun _ => rfl)) rfl rfl ?_
          refine TrL.fin ?_
          exact End.lp (k + 1) (by first | rfl | omega | (simp; done) | (simp; omega) | assumption) (by omega) (Ent.mk (.o rfl (by rw [← srch_two hlt, srch_in (F := []) (j := 1) (by omega) hold2]) rfl <| .i rfl (by first | rfl | omega | (simp; done) | (simp; omega) | assumption) <| .k rfl rfl <| .nil) (.a (by rw [← srch_two hlt, srch_in (F := []) (j := 1) (by omega) hold2]) (by rw [← srch_two hlt, srch_in (F := []) (j := 1) (by omega) hold2]) <| .k rfl <| .nil) rfl)
    · intro h3
      replace h3 := Int.not_lt.1 (of_decide_eq_false h3)
      refine Tr.exit ?_
      refine Exs.thn ?_
      refine Exs.thn ?_
      refine Exs.here ?_
      exact End.cut (k) (by omega) (Ent.mk (.o rfl (by first | rfl | omega | (simp; done) | (simp; omega) | assumption) rfl <| .i rfl (by first | rfl | omega | (simp; done) | (simp; omega) | assumption) <| .k rfl rfl <| .nil) (.a (by first | rfl | omega | (simp; done) | (simp; omega) | assumption) (by first | rfl | omega | (simp; done) | (simp; omega) | assumption) <| .k rfl <| .nil) rfl)
  · intro k hE0
    refine End.norm (S' := [⟨5, true, _, _⟩, ⟨6, true, _, _⟩, ⟨2, true, _, _⟩]) (M' := [⟨10, _, _⟩, ⟨2, _, _⟩]) rfl rfl ?_
    have hb := bfs_of v (good1 hs) hE0
    have hrl := cn.len v hs
    rw [reach_eq] at hrl
    rw [hb] at *
    refine End.nxt ?_
    refine Tr.seq ?_
    refine Tr.rg ?_
    refine TrL.op (ok_move rfl (fun _ => rfl)) rfl rfl ?_
    refine TrL.frz 10 [5, 49] ⟨rfl, rfl, trivial⟩ (by simp only [lenMax]; omega) rfl ?_
    refine TrL.norm (S' := [⟨_, _, _, _⟩, ⟨_, _, _, _⟩, ⟨_, _, _, _⟩, ⟨_, _, _, _⟩, ⟨_, _, _, _⟩, ⟨_, _, _, _⟩]) rfl rfl ?_
    refine TrL.op (ok_call (fun hp => ct_rInverse _ (by omega)) (.a rfl (fun _ => rfl) <| .nil)) rfl rfl ?_
    refine TrL.op (ok_assign rfl (fun _ => rfl)) rfl rfl ?_
    refine TrL.fin ?_
    refine End.nxt ?_
    refine Tr.ret ?_
    exact Rts.res1 (fn := Try.f71) rfl (.r rfl (invA_reach v cn hs) <| .nil)

end Go.Fl

/- Contracts: the label of the reference; the law of labels. -/
namespace Go.Fl
open Go Go.Proofs

set_option maxRecDepth 100000 in
theorem ct_rLabel (o : Ori) (v : Valid o) (cn : Conn o) : Ct Try.prog 19 [kRd eO o] (kTup [kRd eO (lblO o), kRd (eL eI) (lblF o)]) := by
  have hv0 := v.pos
  have hv1 := v.len
  have hv2 := v.le
  refine Ct.mk Try.func19 rfl Try.ntmps19 rfl (fun w J => ?_)
  refine Tr.seq ?_
  refine Tr.rg ?_
  refine TrL.new (ok_box 1 rfl (fun _ => rfl) rfl) rfl rfl rfl rfl ?_
  refine TrL.new (ok_alloc 2) rfl rfl rfl rfl ?_
  refine TrL.op (ok_assign rfl (fun _ => rfl)) rfl rfl ?_
  refine TrL.fin ?_
  refine End.nxt ?_
  refine Tr.seq ?_
  refine Tr.rg ?_
  refine TrL.op (ok_ldBS rfl (fun _ => rfl)) rfl rfl ?_
  refine TrL.op (ok_call (fun hp => ct_rFrom _ 0 v cn ⟨by omega, by omega⟩) (.s rfl (fun _ => rfl) rfl <| .a rfl (fun _ => rfl) <| .nil)) rfl rfl ?_
  refine TrL.op (ok_assign rfl (fun _ => rfl)) rfl rfl ?_
  refine TrL.fin ?_
  refine End.nxt ?_
  refine Tr.seq ?_
  refine Tr.seq ?_
  refine Tr.rg ?_
  refine TrL.op (ok_assign rfl (fun _ => rfl)) rfl rfl ?_
  refine TrL.fin ?_
  refine End.nxt ?_
  refine Tr.for1 (σ := Nat) [⟨1, true, _, _⟩, ⟨2, true, _, _⟩] [⟨1, _, _⟩, ⟨2, _, _⟩] (fun k => [⟨4, true, [], kRd (eL eI) (numL o (lblS o k : Int))⟩, ⟨5, true, [], kI (k : Int)⟩]) (fun k => []) (fun k => 1 ≤ k ∧ k ≤ o.1.length) (fun k => k = o.1.length) (fun k => o.1.length - k) (1) ⟨Nat.le_refl _, hv0⟩ (Ent.mk (.r rfl (by rw [lblS_one]; rfl) <| .i rfl (by first | rfl | omega | (simp; done) | (simp; omega) | assumption) <| .k rfl rfl <| .k rfl rfl <| .nil) (.k rfl <| .k rfl <| .nil) rfl) ?_ ?_
  · rintro k ⟨hk0, hk1⟩
    refine Tr.norm (S' := [⟨4, true, _, _⟩, ⟨5, true, _, _⟩, ⟨1, true, _, _⟩, ⟨2, true, _, _⟩]) (M' := [⟨1, _, _⟩, ⟨2, _, _⟩]) rfl rfl ?_
    refine Tr.seq ?_
    refine Tr.seq ?_
    refine Tr.rg ?_
    refine TrL.op (ok_move rfl (fun _ => rfl)) rfl rfl ?_
    refine TrL.op (ok_ldBS rfl (fun _ => rfl)) rfl rfl ?_
    refine TrL.op (ok_call (fun hp => ct_rSize _) (.s rfl (fun _ => rfl) rfl <| .nil)) rfl rfl ?_
    refine TrL.op (ok_lss rfl (fun _ => rfl) rfl (fun _ => rfl)) rfl rfl ?_
    refine TrL.fin ?_
    refine End.nxt ?_
    refine Tr.cnd rfl ?_ ?_
    · intro h3
      replace h3 := of_decide_eq_true h3
      have hks : Sq o.1.length (k : Int) := Sq.nat (by omega)
      have hlt := lblS_lt (o := o) (k := k) (by omega)
      have hls : Sq o.1.length (lblS o k : Int) := Sq.nat (by omega)
      have hc1 : (renL o (numL o (k : Int))).1.length = o.1.length ∧ (renL o (numL o (k : Int))).2.length = o.1.length := candO_len (s := k)
      have hc2 : (renL o (numL o (lblS o k : Int))).1.length = o.1.length ∧ (renL o (numL o (lblS o k : Int))).2.length = o.1.length := candO_len (s := lblS o k)
      refine Tr.skip ?_
      refine End.nxt ?_
      refine Tr.seq ?_
      refine Tr.blk ?_
      refine Tr.seq ?_
      refine Tr.rg ?_
      refine TrL.op (ok_ldBS rfl (fun _ => rfl)) rfl rfl ?_
      refine TrL.op (ok_move rfl (fun _ => rfl)) rfl rfl ?_
      refine TrL.op (ok_call (fun hp => ct_rFrom _ _ v cn hks) (.s rfl (fun _ => rfl) rfl <| .a rfl (fun _ => rfl) <| .nil)) rfl rfl ?_
      refine TrL.op (ok_assign rfl (fun _ => rfl)) rfl rfl ?_
      refine TrL.fin ?_
      refine End.nxt ?_
      refine Tr.seq ?_
      refine Tr.draw 5 mixed (by kernel_rfl) ?_
      refine RunD.op (ok_ldBS rfl (fun _ => rfl)) rfl rfl ?_
      refine RunD.op (ok_move rfl (fun _ => rfl)) rfl rfl ?_
      refine RunD.op (ok_call (fun hp => ct_rRenumber _ _ v numL_len (numL_rng v cn hks)) (.s rfl (fun _ => rfl) rfl <| .a rfl (fun _ => rfl) <| .nil)) rfl rfl ?_
      refine RunD.op (ok_ldBS rfl (fun _ => rfl)) rfl rfl ?_
      refine RunD.op (ok_move rfl (fun _ => rfl)) rfl rfl ?_
      refine RunD.z ?_
      refine TrL.op (ok_call (fun hp => ct_rRenumber _ _ v numL_len (numL_rng v cn hls)) (.s rfl (fun _ => rfl) rfl <| .a rfl (fun _ => rfl) <| .nil)) rfl rfl ?_
      refine TrL.op (ok_call (fun hp => ct_rBefore _ _ (hc1.1.trans hc2.1.symm) (hc1.2.trans hc2.2.symm) (by omega)) (.a rfl (fun _ => rfl) <| .a rfl (fun _ => rfl) <| .nil)) rfl rfl ?_
      refine TrL.fin ?_
      refine End.nxt ?_
      refine Tr.cnd rfl ?_ ?_
      · intro h6
        have hup := lblS_pos (of_decide_eq_true (lbl_less.trans h6))
        refine Tr.rg ?_
        refine TrL.op (ok_move rfl (fun _ => rfl)) rfl rfl ?_
        refine TrL.op (ok_assign rfl (fun _ => rfl)) rfl rfl ?_
        refine TrL.fin ?_
        refine End.blk ?_
        refine End.nxt ?_
        refine Tr.rg ?_
        refine TrL.op (ok_move rfl (fun _ => rfl)) rfl rfl ?_
        refine TrL.op (ok_add rfl (fun _ => rfl) rfl (fun _ => rfl) (fun _ => by omega)) rfl rfl ?_
        refine TrL.op (ok_assign rfl (fun _ => rfl)) rfl rfl ?_
        refine TrL.fin ?_
        exact End.lp (k + 1) ⟨by omega, by omega⟩ (by omega) (Ent.mk (.r rfl (by rw [hup]) <| .i rfl (by first | rfl | omega | (simp; done) | (simp; omega) | assumption) <| .k rfl rfl <| .k rfl rfl <| .nil) (.k rfl <| .k rfl <| .nil) rfl)
      · intro h6
        have hup := lblS_neg (of_decide_eq_false (lbl_less.trans h6))
        refine Tr.skip ?_
        refine End.blk ?_
        refine End.nxt ?_
        refine Tr.rg ?_
        refine TrL.op (ok_move rfl (fun _ => rfl)) rfl rfl ?_
        refine TrL.op (ok_add rfl (fun _ => rfl) rfl (fun _ => rfl) (fun _ => by omega)) rfl rfl ?_
        refine TrL.op (ok_assign rfl (fun _ => rfl)) rfl rfl ?_
        refine TrL.fin ?_
        exact End.lp (k + 1) ⟨by omega, by omega⟩ (by omega) (Ent.mk (.r rfl (by rw [hup]) <| .i rfl (by first | rfl | omega | (simp; done) | (simp; omega) | assumption) <| .k rfl rfl <| .k rfl rfl <| .nil) (.k rfl <| .k rfl <| .nil) rfl)
    · intro h3
      replace h3 := Int.not_lt.1 (of_decide_eq_false h3)
      refine Tr.exit ?_
      refine Exs.thn ?_
      refine Exs.thn ?_
      refine Exs.here ?_
      exact End.cut (k) (by omega) (Ent.mk (.r rfl (by first | rfl | omega | (simp; done) | (simp; omega) | assumption) <| .i rfl (by first | rfl | omega | (simp; done) | (simp; omega) | assumption) <| .k rfl rfl <| .k rfl rfl <| .nil) (.k rfl <| .k rfl <| .nil) rfl)
  · rintro _ rfl
    refine End.norm (S' := [⟨4, true, _, _⟩, ⟨5, true, _, _⟩, ⟨1, true, _, _⟩, ⟨2, true, _, _⟩]) (M' := [⟨1, _, _⟩, ⟨2, _, _⟩]) rfl rfl ?_
    have hlt := lblS_lt (o := o) (k := o.1.length) hv0
    have hls : Sq o.1.length (lblS o o.1.length : Int) := Sq.nat hlt
    refine End.nxt ?_
    refine Tr.seq ?_
    refine Tr.rg ?_
    refine TrL.op (ok_ldBS rfl (fun _ => rfl)) rfl rfl ?_
    refine TrL.op (ok_move rfl (fun _ => rfl)) rfl rfl ?_
    refine TrL.op (ok_call (fun hp => ct_rRenumber _ _ v numL_len (numL_rng v cn hls)) (.s rfl (fun _ => rfl) rfl <| .a rfl (fun _ => rfl) <| .nil)) rfl rfl ?_
    refine TrL.op (ok_move rfl (fun _ => rfl)) rfl rfl ?_
    refine TrL.stB rfl rfl rfl rfl ?_
    refine TrL.op (ok_assign rfl (fun _ => rfl)) rfl rfl ?_
    refine TrL.fin ?_
    refine End.nxt ?_
    refine Tr.ret ?_
    exact Rts.resC (fn := Try.f19) (ts := [3]) rfl rfl rfl (aggRd rfl (by rfl)) (.r rfl (by rfl) <| .nil)

set_option maxRecDepth 100000 in
theorem ct_OrigamiLabels (o : Ori) : Ct Try.prog 3 [kRd eO o] (kB true) := by
  refine Ct.mk Try.func3 rfl Try.ntmps3 rfl (fun w J => ?_)
  refine Tr.seq ?_
  refine Tr.rg ?_
  refine TrL.new (ok_box 1 rfl (fun _ => rfl) rfl) rfl rfl rfl rfl ?_
  refine TrL.op (ok_assign rfl (fun _ => rfl)) rfl rfl ?_
  refine TrL.fin ?_
  refine End.nxt ?_
  refine Tr.seq ?_
  refine Tr.seq ?_
  refine Tr.rg ?_
  refine TrL.op (ok_call (fun hp => ct_awake) (.nil)) rfl rfl ?_
  refine TrL.op (ok_not rfl (fun _ => rfl)) rfl rfl ?_
  refine TrL.fin ?_
  refine End.nxt ?_
  refine Tr.cnd rfl ?_ ?_
  · intro h1
    simp at h1
  · intro h1
    refine Tr.skip ?_
    refine End.nxt ?_
    refine Tr.seq ?_
    refine Tr.seq ?_
    refine Tr.rg ?_
    refine TrL.op (ok_ldBS rfl (fun _ => rfl)) rfl rfl ?_
    refine TrL.op (ok_call (fun hp => ct_Few _) (.s rfl (fun _ => rfl) rfl <| .nil)) rfl rfl ?_
    refine TrL.op (ok_not rfl (fun _ => rfl)) rfl rfl ?_
    refine TrL.fin ?_
    refine End.nxt ?_
    refine Tr.cnd rfl ?_ ?_
    · intro h3
      try simp only [decide_eq_true_eq, decide_eq_false_iff_not, Bool.and_eq_true, Bool.or_eq_true, Bool.not_eq_true', Bool.not_eq_false', Bool.and_eq_false_imp, Bool.or_eq_false_iff, Int.not_lt, Int.not_le, ne_eq, Classical.not_not, Nat.not_lt, Nat.not_le] at h3
      refine Tr.seq ?_
      refine Tr.rg ?_
      refine TrL.op (ok_assign rfl (fun _ => rfl)) rfl rfl ?_
      refine TrL.fin ?_
      refine End.nxt ?_
      refine Tr.ret ?_
      refine Rts.thn ?_
      exact Rts.res1 (fn := Try.f3) rfl (.b rfl (by rfl) <| .nil)
    · intro h3
      try simp only [decide_eq_true_eq, decide_eq_false_iff_not, Bool.and_eq_true, Bool.or_eq_true, Bool.not_eq_true', Bool.not_eq_false', Bool.and_eq_false_imp, Bool.or_eq_false_iff, Int.not_lt, Int.not_le, ne_eq, Classical.not_not, Nat.not_lt, Nat.not_le] at h3
      refine Tr.skip ?_
      refine End.nxt ?_
      refine Tr.seq ?_
      refine Tr.rg ?_
      refine TrL.op (ok_ldBS rfl (fun _ => rfl)) rfl rfl ?_
      refine TrL.op (ok_call (fun hp => ct_oLabel _) (.s rfl (fun _ => rfl) rfl <| .nil)) rfl rfl ?_
      refine TrL.op (ok_move rfl (fun _ => rfl)) rfl rfl ?_
      refine TrL.op (ok_ext rfl (fun _ => rfl) rfl) rfl rfl ?_
      refine TrL.op (ok_ext rfl (fun _ => rfl) rfl) rfl rfl ?_
      refine TrL.op (ok_ext rfl (fun _ => rfl) rfl) rfl rfl ?_
      refine TrL.new (ok_alloc 3) rfl rfl rfl rfl ?_
      refine TrL.stB rfl rfl rfl rfl ?_
      refine TrL.op (ok_assign rfl (fun _ => rfl)) rfl rfl ?_
      refine TrL.op (ok_assign rfl (fun _ => rfl)) rfl rfl ?_
      refine TrL.fin ?_
      refine End.nxt ?_
      refine Tr.seq ?_
      refine Tr.seq ?_
      refine Tr.rg ?_
      refine TrL.op (ok_ldBS rfl (fun _ => rfl)) rfl rfl ?_
      refine TrL.op (ok_call (fun hp => ct_rCheckOne _) (.s rfl (fun _ => rfl) rfl <| .nil)) rfl rfl ?_
      refine TrL.op (ok_assign rfl (fun _ => rfl)) rfl rfl ?_
      refine TrL.fin ?_
      refine End.nxt ?_
      refine Tr.seq ?_
      refine Tr.rg ?_
      refine TrL.op (ok_move rfl (fun _ => rfl)) rfl rfl ?_
      refine TrL.op (ok_neq rfl (fun _ => rfl) rfl (fun _ => rfl)) rfl rfl ?_
      refine TrL.fin ?_
      refine End.nxt ?_
      refine Tr.cnd rfl ?_ ?_
      · intro h7
        replace h7 := of_decide_eq_true h7
        refine Tr.seq ?_
        refine Tr.rg ?_
        refine TrL.op (ok_move rfl (fun _ => rfl)) rfl rfl ?_
        refine TrL.op (ok_move rfl (fun _ => rfl)) rfl rfl ?_
        refine TrL.op (ok_eql rfl (fun _ => rfl) rfl (fun _ => rfl)) rfl rfl ?_
        refine TrL.op (ok_move rfl (fun _ => rfl)) rfl rfl ?_
        refine TrL.gd rfl rfl rfl (ok_ldBS rfl (fun _ => rfl)) rfl rfl ?_
        refine TrL.gd rfl rfl rfl (ok_call (fun hp => ct_nothing _) (.s rfl id rfl <| .nil)) rfl rfl ?_
        refine TrL.op (ok_and rfl (fun _ => rfl) rfl (fun hp h => gdT2 ((fun _ => rfl) hp) h)) rfl rfl ?_
        refine TrL.op (ok_move rfl (fun _ => rfl)) rfl rfl ?_
        refine TrL.gd rfl rfl rfl (ok_move rfl (fun _ => rfl)) rfl rfl ?_
        refine TrL.gd rfl rfl rfl (ok_lenJ rfl id) rfl rfl ?_
        refine TrL.gd rfl rfl rfl (ok_eql rfl id rfl (fun _ => rfl)) rfl rfl ?_
        refine TrL.op (ok_and rfl (fun _ => rfl) rfl (fun hp h => gdT2 ((fun _ => rfl) hp) h)) rfl rfl ?_
        refine TrL.op (ok_assign rfl (fun _ => rfl)) rfl rfl ?_
        refine TrL.fin ?_
        refine End.nxt ?_
        refine Tr.ret ?_
        refine Rts.thn ?_
        exact Rts.res1 (fn := Try.f3) rfl (.b rfl (by simp [h7]) <| .nil)
      · intro h7
        replace h7 := Classical.not_not.1 (of_decide_eq_false h7)
        obtain ⟨v, cn⟩ := chk1_zero h7
        refine Tr.skip ?_
        refine End.nxt ?_
        refine Tr.seq ?_
        refine Tr.rg ?_
        refine TrL.op (ok_ldBS rfl (fun _ => rfl)) rfl rfl ?_
        refine TrL.op (ok_call (fun hp => ct_rLabel _ v cn) (.s rfl (fun _ => rfl) rfl <| .nil)) rfl rfl ?_
        refine TrL.op (ok_move rfl (fun _ => rfl)) rfl rfl ?_
        refine TrL.op (ok_ext rfl (fun _ => rfl) rfl) rfl rfl ?_
        refine TrL.op (ok_ext rfl (fun _ => rfl) rfl) rfl rfl ?_
        refine TrL.new (ok_alloc 7) rfl rfl rfl rfl ?_
        refine TrL.stB rfl rfl rfl rfl ?_
        refine TrL.op (ok_assign rfl (fun _ => rfl)) rfl rfl ?_
        refine TrL.fin ?_
        refine End.nxt ?_
        refine Tr.seq ?_
        refine Tr.rg ?_
        refine TrL.op (ok_move rfl (fun _ => rfl)) rfl rfl ?_
        refine TrL.op (ok_eql rfl (fun _ => rfl) rfl (fun _ => rfl)) rfl rfl ?_
        refine TrL.op (ok_move rfl (fun _ => rfl)) rfl rfl ?_
        refine TrL.gd rfl rfl rfl (ok_ldBS rfl (fun _ => rfl)) rfl rfl ?_
        refine TrL.gd rfl rfl rfl (ok_ldBS rfl (fun _ => rfl)) rfl rfl ?_
        refine TrL.gd rfl rfl rfl (ok_call (fun hp => ct_rSame _ _) (.s rfl id rfl <| .s rfl id rfl <| .nil)) rfl rfl ?_
        refine TrL.op (ok_and rfl (fun _ => rfl) rfl (fun hp h => gdT2 ((fun _ => rfl) hp) h)) rfl rfl ?_
        refine TrL.op (ok_move rfl (fun _ => rfl)) rfl rfl ?_
        refine TrL.gd rfl rfl rfl (ok_move rfl (fun _ => rfl)) rfl rfl ?_
        refine TrL.gd rfl rfl rfl (ok_move rfl (fun _ => rfl)) rfl rfl ?_
        refine TrL.gd rfl rfl rfl (ok_call (fun hp => ct_Ints _ _) (.a rfl id <| .a rfl id <| .nil)) rfl rfl ?_
        refine TrL.op (ok_and rfl (fun _ => rfl) rfl (fun hp h => gdT2 ((fun _ => rfl) hp) h)) rfl rfl ?_
        refine TrL.op (ok_assign rfl (fun _ => rfl)) rfl rfl ?_
        refine TrL.fin ?_
        refine End.nxt ?_
        refine Tr.ret ?_
        exact Rts.res1 (fn := Try.f3) rfl (.b rfl (by simp [h7]) <| .nil)

end Go.Fl

/- THE LAW OrigamiLabels HOLDS FOR EVERY INPUT: whatever the arguments, the call returns true, and each argument reads behind it as before. Conditions: those of the given row (its listed variables as the program lays them). -/
namespace Go.Proofs.Ytphkjcmonjbpfaa
open Go Go.Fl Go.RowKit Go.ChangeShapes Go.WideShapes Go.ChangeAt

theorem rdt22 : RdT Try.prog 22 (eL eI) (ListP (okI .i64)) := RdT.slice RdT.int rfl rfl rfl
theorem rdt24t : RdT Try.prog 24 (eP (eL eI) (eP (eL eI) eU)) (AndP (ListP (okI .i64)) (AndP (ListP (okI .i64)) UnitP)) := by
  refine RdT.struct (l := [_, _]) Try.underlying24 rfl (by kernel_rfl) ?_
  refine FldT.cons rdt22 (by rfl) (by rfl) (by rfl) ?_
  refine FldT.cons rdt22 (by rfl) (by rfl) (by rfl) ?_
  exact FldT.nil
theorem rdt24 : RdT Try.prog 24 eO (fun o : Ori => ListP (okI .i64) o.1 ∧ ListP (okI .i64) o.2) := RdT.conv rdt24t (fun x => ((x.1, x.2.1) : Ori)) (fun _ _ _ h => h) (fun _ h => ⟨h.1, h.2.1⟩)
theorem own : ownKnob Try.prog.godebug = none := by kernel_rfl
set_option maxRecDepth 100000 in
theorem lifted0 (os : Os) (started : os.Started) (H : Type) (enc : TypeId × Value → H) :
    ReturnsInHanded {} Try.checked os 3 .any (fun w args => (Rows.origamiLabelsSpec.pre enc Try.prog Try.f3 [] false w args ∧ True) ∧ sizedMet enc Try.prog Try.f3 (OpenSpec.ofChange Rows.origamiLabelsSpec) false w args)
      (Rows.origamiLabelsSpec.post enc Try.prog Try.f3 false true false false) := by
  refine returnsInHanded_of_change_and (C := Try.checked) (X := fun _ _ => True) (fun _ _ _ _ h => h) own started (by kernel_rfl) Try.func3
    (ChangeSpec.witness_shaped (enc := enc) (C := Try.checked) (os := os) (X := fun _ _ => True) false (World.laidAll Try.prog os Rows.origamiLabelsRow.laid) #[.agg #[.slice none 0 0, .slice none 0 0]] 8 (World.laidAll_os _ _ _)
      (World.shaped_of_ZipB (by kernel_rfl) (by kernel_rfl)) (by kernel_rfl) (by kernel_rfl) (by kernel_rfl)
      trivial) ?_
  intro W base args ds gs before hval0 hW _ hwt hL _
  have hval : ∀ (j : Nat) t v, Try.f3.params[j]? = some t → args[j]? = some v → Value.okWide Try.prog W .any base t v := hval0
  have hpost : ∀ W', Below W.heap.size W W' → Rows.origamiLabelsSpec.post enc Try.prog Try.f3 false true false false W args (.bool true) W' := fun W' hb => law_post (by kernel_rfl) (by kernel_rfl) (by kernel_rfl) hW (by kernel_rfl) rfl (fun hg => by
    subst hg
    obtain ⟨p, q, hA0, _⟩ := hW
    have hA : DataW.TrodAll enc Try.prog W 0 (fun _ => true) true Try.f3.params.toList args.toList ds p := hA0
    rw [Try.params3] at hA
    obtain ⟨v0, d0, rfl, rfl, _⟩ := trodAll_one hA
    rfl) rfl Try.underlying4 hb
  have hW0 := hW
  obtain ⟨p, q, hA0, hV, rfl, _, _⟩ := hW0
  have hA : DataW.TrodAll enc Try.prog W 0 (fun _ => true) true Try.f3.params.toList args.toList ds p := hA0
  rw [Try.params3] at hA hval hwt
  obtain ⟨rfl, rfl⟩ := trodVars_none hV
  obtain ⟨v0, d0, rfl, rfl, h0⟩ := trodAll_one hA
  have hwt' : (DataW.weightsEach Try.prog [24] [d0]).all (· ≤ reachBytes) = true := hwt
  have w0 := weights_cons hwt'
  obtain ⟨x0, k0, r0⟩ := RdT.val (by exact rdt24 : RdT Try.prog 24 eO (fun o : Ori => ListP (okI .i64) o.1 ∧ ListP (okI .i64) o.2)) rfl (hval 0 24 v0 rfl rfl) h0 w0.1
  refine Ct.law (vs := #[v0]) (ct_OrigamiLabels x0) ?_ fun W' hb => ⟨_, rfl, hpost W' hb⟩
  exact ⟨k0, trivial⟩
theorem lifted (os : Os) (started : os.Started) (H : Type) (enc : TypeId × Value → H) :
    ReturnsInHanded {} Try.checked os 3 .any (fun w args => Rows.origamiLabelsSpec.pre enc Try.prog Try.f3 [] false w args ∧ sizedMet enc Try.prog Try.f3 (OpenSpec.ofChange Rows.origamiLabelsSpec) false w args)
      (Rows.origamiLabelsSpec.post enc Try.prog Try.f3 false true false false) := by
  have h := lifted0 os started H enc
  simp only [and_true] at h
  exact h
theorem holds : Rows.origamiLabelsRow.holds Try.pinned (OpenSpec.ofChange Rows.origamiLabelsSpec) :=
  OpenClaim.holds_of_wide 3 Try.f3 rfl rfl rfl rfl rfl rfl rfl ⟨rfl, rfl, rfl, rfl, rfl⟩ rfl rfl rfl rfl rfl (by kernel_rfl) Try.func3 (by kernel_rfl)
    (of_decide_eq_true (by kernel_rfl)) (by unfold Func.isWrapper; first | (rw [if_pos (by decide +kernel)]; kernel_rfl) | (rw [if_neg (by decide +kernel)]; exact ⟨rfl, rfl⟩))
    (fun os started H enc _ => lifted os started H enc)
theorem origamiLabels_holds : Rows.OrigamiLabelsSaid := holds
end Go.Proofs.Ytphkjcmonjbpfaa
