/- THE LAW OrigamiSaddles HOLDS FOR EVERY INPUT: whatever the arguments, the call returns true, and each argument reads behind it as before. Conditions: those of the given row (its listed variables as the program lays them). -/
import Derived.Test.YtphkjcmonjbpfaaM5
import Derived.Test.YtphkjcmonjbpfaaRows

/- Contracts: saddles. -/
namespace Go.Fl
open Go Go.Proofs

def eSad : Enc SadT := eC (fun v : SadT => (v.1, v.2.1, v.2.2.1, v.2.2.2.1, v.2.2.2.2.1, v.2.2.2.2.2, ())) (eP eI (eP eI (eP eI (eP eI (eP eI (eP eI eU))))))
instance {v : SadT} : CellsK (kRd eSad v) [kI (v.1), kI (v.2.1), kI (v.2.2.1), kI (v.2.2.2.1), kI (v.2.2.2.2.1), kI (v.2.2.2.2.2)] := inferInstanceAs (CellsK (kRd (eC (fun v : SadT => (v.1, v.2.1, v.2.2.1, v.2.2.2.1, v.2.2.2.2.1, v.2.2.2.2.2, ())) (eP eI (eP eI (eP eI (eP eI (eP eI (eP eI eU))))))) v) _)
instance {v : SadT} {tl : List Know} : EncCells eSad v tl (kI (v.1) :: kI (v.2.1) :: kI (v.2.2.1) :: kI (v.2.2.2.1) :: kI (v.2.2.2.2.1) :: kI (v.2.2.2.2.2) :: tl) := inferInstanceAs (EncCells (eC (fun v : SadT => (v.1, v.2.1, v.2.2.1, v.2.2.2.1, v.2.2.2.2.1, v.2.2.2.2.2, ())) (eP eI (eP eI (eP eI (eP eI (eP eI (eP eI eU))))))) v tl _)
instance {v : SadT} : Norm eSad v (kRd eSad v) := ⟨fun h => h⟩
instance {v : SadT} : FieldP eSad v 0 eI (v.1) 0 := inferInstanceAs (FieldP (eC (fun v : SadT => (v.1, v.2.1, v.2.2.1, v.2.2.2.1, v.2.2.2.2.1, v.2.2.2.2.2, ())) (eP eI (eP eI (eP eI (eP eI (eP eI (eP eI eU))))))) v 0 _ _ _)
instance {v : SadT} : FieldP eSad v 1 eI (v.2.1) 1 := inferInstanceAs (FieldP (eC (fun v : SadT => (v.1, v.2.1, v.2.2.1, v.2.2.2.1, v.2.2.2.2.1, v.2.2.2.2.2, ())) (eP eI (eP eI (eP eI (eP eI (eP eI (eP eI eU))))))) v 1 _ _ _)
instance {v : SadT} : FieldP eSad v 2 eI (v.2.2.1) 2 := inferInstanceAs (FieldP (eC (fun v : SadT => (v.1, v.2.1, v.2.2.1, v.2.2.2.1, v.2.2.2.2.1, v.2.2.2.2.2, ())) (eP eI (eP eI (eP eI (eP eI (eP eI (eP eI eU))))))) v 2 _ _ _)
instance {v : SadT} : FieldP eSad v 3 eI (v.2.2.2.1) 3 := inferInstanceAs (FieldP (eC (fun v : SadT => (v.1, v.2.1, v.2.2.1, v.2.2.2.1, v.2.2.2.2.1, v.2.2.2.2.2, ())) (eP eI (eP eI (eP eI (eP eI (eP eI (eP eI eU))))))) v 3 _ _ _)
instance {v : SadT} : FieldP eSad v 4 eI (v.2.2.2.2.1) 4 := inferInstanceAs (FieldP (eC (fun v : SadT => (v.1, v.2.1, v.2.2.1, v.2.2.2.1, v.2.2.2.2.1, v.2.2.2.2.2, ())) (eP eI (eP eI (eP eI (eP eI (eP eI (eP eI eU))))))) v 4 _ _ _)
instance {v : SadT} : FieldP eSad v 5 eI (v.2.2.2.2.2) 5 := inferInstanceAs (FieldP (eC (fun v : SadT => (v.1, v.2.1, v.2.2.1, v.2.2.2.1, v.2.2.2.2.1, v.2.2.2.2.2, ())) (eP eI (eP eI (eP eI (eP eI (eP eI (eP eI eU))))))) v 5 _ _ _)
instance {ks r : List Know} {a b c d e f : Int} [h : RdOf ks (eP eI (eP eI (eP eI (eP eI (eP eI (eP eI eU)))))) (a, b, c, d, e, f, ()) r] : RdOf ks eSad ((a, b, c, d, e, f)) r := ⟨fun h' => h.imp h'⟩
instance : TyInts Try.prog 62 6 := TyInts.mk' (by kernel_rfl) (by kernel_rfl) (by kernel_rfl) (by kernel_rfl)

theorem sad_cells {J : JV} {cs : List Value} {v : SadT} (h : eSad.rd J cs v) : cs = [v.1, v.2.1, v.2.2.1, v.2.2.2.1, v.2.2.2.2.1, v.2.2.2.2.2].map (Value.int .i64) := by
  obtain ⟨_, _, rfl, rfl, _, _, rfl, rfl, _, _, rfl, rfl, _, _, rfl, rfl, _, _, rfl, rfl, _, _, rfl, rfl, rfl⟩ := h
  rfl

set_option maxRecDepth 100000 in
theorem ct_orders (o : Ori) (v : Valid o) : Ct Try.prog 89 [kRd eO o] (kTup [kRd (eL eI) (ordV o), kRd (eL eI) (vertL o)]) := by
  have hv0 := v.pos
  have hv1 := v.len
  have hv2 := v.le
  have hvl := vtx_le (o := o)
  refine Ct.mk Try.func89 rfl Try.ntmps89 rfl (fun w J => ?_)
  refine Tr.seq ?_
  refine Tr.rg ?_
  refine TrL.new (ok_box 1 rfl (fun _ => rfl) rfl) rfl rfl rfl rfl ?_
  refine TrL.op (ok_assign rfl (fun _ => rfl)) rfl rfl ?_
  refine TrL.op (ok_assign rfl (fun _ => rfl)) rfl rfl ?_
  refine TrL.fin ?_
  refine End.nxt ?_
  refine Tr.seq ?_
  refine Tr.draw 9 mixed (by kernel_rfl) ?_
  refine RunD.op (ok_fldO rfl (fun _ => rfl)) rfl rfl ?_
  refine RunD.op (ok_ldB rfl (fun _ => rfl) rfl) rfl rfl ?_
  refine RunD.op (ok_lenJ rfl (fun _ => rfl)) rfl rfl ?_
  refine RunD.new (ok_makeN eI 11 rfl (fun _ => rfl) rfl (fun _ => rfl) rfl rfl rfl (fun _ => by omega)) rfl rfl rfl rfl ?_
  refine RunD.op (ok_fldO rfl (fun _ => rfl)) rfl rfl ?_
  refine RunD.op (ok_ldB rfl (fun _ => rfl) rfl) rfl rfl ?_
  refine RunD.op (ok_lenJ rfl (fun _ => rfl)) rfl rfl ?_
  refine RunD.new (ok_makeN eI 15 rfl (fun _ => rfl) rfl (fun _ => rfl) rfl rfl rfl (fun _ => by omega)) rfl rfl rfl rfl ?_
  refine RunD.opN (ok_assign rfl (fun _ => rfl)) rfl rfl ?_
  refine RunD.z ?_
  refine TrL.op (ok_assign rfl (fun _ => rfl)) rfl rfl ?_
  refine TrL.fin ?_
  refine End.nxt ?_
  refine Tr.seq ?_
  refine Tr.seq ?_
  refine Tr.rg ?_
  refine TrL.op (ok_ldBS rfl (fun _ => rfl)) rfl rfl ?_
  refine TrL.op (ok_call (fun hp => ct_comm _ v) (.s rfl (fun _ => rfl) rfl <| .nil)) rfl rfl ?_
  refine TrL.op (ok_call (fun hp => ct_cycV o v) (.a rfl (fun _ => rfl) <| .nil)) rfl rfl ?_
  refine TrL.op (ok_lenJ rfl (fun _ => rfl)) rfl rfl ?_
  refine TrL.op (ok_move rfl (fun _ => rfl)) rfl rfl ?_
  refine TrL.fin ?_
  refine End.nxt ?_
  refine Tr.for1 (σ := Nat) [⟨2, true, _, _⟩, ⟨3, true, _, _⟩, ⟨18, true, _, _⟩, ⟨19, true, _, _⟩] [] (fun k => [⟨20, true, [], kI (k : Int)⟩]) (fun k => [⟨11, [], cArr false 3 eI (rowTo (vtx o) (lenM (vtx o)) o.1.length k) o.1.length⟩, ⟨15, [], cArr false 3 eI (vertTo (vtx o) o.1.length k) o.1.length⟩]) (fun k => k ≤ (vtx o).length) (fun k => k = (vtx o).length) (fun k => (vtx o).length - k) (0) (Nat.zero_le _) (Ent.mk (.i rfl (by first | rfl | omega | (simp; done) | (simp; omega) | assumption) <| .k rfl rfl <| .k rfl rfl <| .k rfl rfl <| .k rfl rfl <| .nil) (.a (by rfl) (by first | rfl | omega | (simp; done) | (simp; omega) | assumption) <| .a (by rfl) (by first | rfl | omega | (simp; done) | (simp; omega) | assumption) <| .nil) rfl) ?_ ?_
  · intro k hR0
    refine Tr.norm (S' := [⟨20, true, _, _⟩, ⟨2, true, _, _⟩, ⟨3, true, _, _⟩, ⟨18, true, _, _⟩, ⟨19, true, _, _⟩]) (M' := [⟨11, _, _⟩, ⟨15, _, _⟩]) rfl rfl ?_
    have hrl := fun h => vtx_row_len v (k := k) h
    refine Tr.seq ?_
    refine Tr.rg ?_
    refine TrL.op (ok_lss rfl (fun _ => rfl) rfl (fun _ => rfl)) rfl rfl ?_
    refine TrL.fin ?_
    refine End.nxt ?_
    refine Tr.seq ?_
    refine Tr.cnd rfl ?_ ?_
    · intro h3
      replace h3 := of_decide_eq_true h3
      refine Tr.skip ?_
      refine End.nxt ?_
      refine Tr.seq ?_
      refine Tr.blk ?_
      refine Tr.seq ?_
      refine Tr.rg ?_
      have hrl2 := hrl (by omega)
      refine TrL.op (ok_move rfl (fun _ => rfl)) rfl rfl ?_
      first | refine TrL.op (ok_idxN rfl (fun _ => rfl) rfl (fun _ => rfl) rfl (fun _ => by omega)) rfl rfl ?_ | refine TrL.op (ok_idxP rfl (fun _ => rfl) rfl (fun _ => rfl) rfl (fun _ => by omega)) rfl rfl ?_
      refine TrL.op (ok_ldP rfl (fun _ => rfl) rfl) rfl rfl ?_
      refine TrL.op (ok_assign rfl (fun _ => rfl)) rfl rfl ?_
      refine TrL.op (ok_assign rfl (fun _ => rfl)) rfl rfl ?_
      refine TrL.fin ?_
      refine End.nxt ?_
      refine Tr.seq ?_
      refine Tr.rg ?_
      refine TrL.op (ok_move rfl (fun _ => rfl)) rfl rfl ?_
      refine TrL.op (ok_lenJ rfl (fun _ => rfl)) rfl rfl ?_
      refine TrL.op (ok_move rfl (fun _ => rfl)) rfl rfl ?_
      refine TrL.fin ?_
      refine End.nxt ?_
      refine Tr.for1 (σ := Nat) [⟨2, true, _, _⟩, ⟨3, true, _, _⟩, ⟨4, true, _, _⟩, ⟨5, true, _, _⟩, ⟨18, true, _, _⟩, ⟨19, true, _, _⟩, ⟨20, true, _, _⟩, ⟨25, true, _, _⟩, ⟨26, true, _, _⟩] [] (fun i => [⟨27, true, [], kI (i : Int)⟩]) (fun i => [⟨11, [], cArr false 3 eI (setC (rowTo (vtx o) (lenM (vtx o)) o.1.length k) ((nth (vtx o) k).take i) (lenM (vtx o) k)) o.1.length⟩, ⟨15, [], cArr false 3 eI (setC (vertTo (vtx o) o.1.length k) ((nth (vtx o) k).take i) k) o.1.length⟩]) (fun i => i ≤ (nth (vtx o) k).length) (fun i => i = (nth (vtx o) k).length) (fun i => (nth (vtx o) k).length - i) (0) (Nat.zero_le _) (Ent.mk (.i rfl (by first | rfl | omega | (simp; done) | (simp; omega) | assumption) <| .k rfl rfl <| .k rfl rfl <| .k rfl rfl <| .k rfl rfl <| .k rfl rfl <| .k rfl rfl <| .k rfl rfl <| .k rfl rfl <| .k rfl rfl <| .nil) (.a (by rw [List.take_zero]; rfl) (by first | rfl | omega | (simp; done) | (simp; omega) | assumption) <| .a (by rw [List.take_zero]; rfl) (by first | rfl | omega | (simp; done) | (simp; omega) | assumption) <| .nil) rfl) ?_ ?_
      · intro i hR1
        refine Tr.norm (S' := [⟨27, true, _, _⟩, ⟨2, true, _, _⟩, ⟨3, true, _, _⟩, ⟨4, true, _, _⟩, ⟨5, true, _, _⟩, ⟨18, true, _, _⟩, ⟨19, true, _, _⟩, ⟨20, true, _, _⟩, ⟨25, true, _, _⟩, ⟨26, true, _, _⟩]) (M' := [⟨11, _, _⟩, ⟨15, _, _⟩]) rfl rfl ?_
        refine Tr.seq ?_
        refine Tr.rg ?_
        refine TrL.op (ok_lss rfl (fun _ => rfl) rfl (fun _ => rfl)) rfl rfl ?_
        refine TrL.fin ?_
        refine End.nxt ?_
        refine Tr.seq ?_
        refine Tr.cnd rfl ?_ ?_
        · intro h6
          replace h6 := of_decide_eq_true h6
          refine Tr.skip ?_
          refine End.nxt ?_
          refine Tr.seq ?_
          refine Tr.blk ?_
          refine Tr.seq ?_
          refine Tr.rg ?_
          have hvm := vtx_mem v (i := k) (j := i) (by omega) (by omega)
          first | refine TrL.op (ok_idxN rfl (fun _ => rfl) rfl (fun _ => rfl) rfl (fun _ => by omega)) rfl rfl ?_ | refine TrL.op (ok_idxP rfl (fun _ => rfl) rfl (fun _ => rfl) rfl (fun _ => by omega)) rfl rfl ?_
          refine TrL.op (ok_ldP rfl (fun _ => rfl) rfl) rfl rfl ?_
          refine TrL.op (ok_assign rfl (fun _ => rfl)) rfl rfl ?_
          refine TrL.fin ?_
          refine End.nxt ?_
          refine Tr.rg ?_
          refine TrL.op (ok_move rfl (fun _ => rfl)) rfl rfl ?_
          refine TrL.op (ok_move rfl (fun _ => rfl)) rfl rfl ?_
          refine TrL.op (ok_move rfl (fun _ => rfl)) rfl rfl ?_
          refine TrL.op (ok_move rfl (fun _ => rfl)) rfl rfl ?_
          refine TrL.op (ok_move rfl (fun _ => rfl)) rfl rfl ?_
          refine TrL.op (ok_lenJ rfl (fun _ => rfl)) rfl rfl ?_
          refine TrL.op (ok_sub rfl (fun _ => rfl) rfl (fun _ => rfl) (fun _ => by omega)) rfl rfl ?_
          refine TrL.op (ok_move rfl (fun _ => rfl)) rfl rfl ?_
          first | refine TrL.op (ok_idxEN rfl (fun _ => rfl) rfl (fun _ => rfl) (fun _ => by omega)) rfl rfl ?_ | refine TrL.op (ok_idxE rfl (fun _ => rfl) rfl (fun _ => rfl) (fun _ => by omega)) rfl rfl ?_
          refine TrL.stE rfl rfl rfl rfl rfl ?_
          first | refine TrL.op (ok_idxEN rfl (fun _ => rfl) rfl (fun _ => rfl) (fun _ => by omega)) rfl rfl ?_ | refine TrL.op (ok_idxE rfl (fun _ => rfl) rfl (fun _ => rfl) (fun _ => by omega)) rfl rfl ?_
          refine TrL.stE rfl rfl rfl rfl rfl ?_
          refine TrL.fin ?_
          refine End.blk ?_
          refine End.nxt ?_
          refine Tr.rg ?_
          refine TrL.op (ok_add rfl (fun _ => rfl) rfl (fun _ => rfl) (fun _ => by omega)) rfl rfl ?_
          refine TrL.op (ok_move rfl (fun _ => rfl)) rfl rfl ?_
          refine TrL.fin ?_
          exact End.lp (i + 1) (by first | rfl | omega | (simp; done) | (simp; omega) | assumption) (by omega) (Ent.mk (.i rfl (by first | rfl | omega | (simp; done) | (simp; omega) | assumption) <| .k rfl rfl <| .k rfl rfl <| .k rfl rfl <| .k rfl rfl <| .k rfl rfl <| .k rfl rfl <| .k rfl rfl <| .k rfl rfl <| .k rfl rfl <| .nil) (.a (by rw [take_succ_nth (by omega), setC_snoc]; rfl) (by first | rfl | omega | (simp; done) | (simp; omega) | assumption) <| .a (by rw [take_succ_nth (by omega), setC_snoc]) (by first | rfl | omega | (simp; done) | (simp; omega) | assumption) <| .nil) rfl)
        · intro h6
          replace h6 := Int.not_lt.1 (of_decide_eq_false h6)
          refine Tr.exit ?_
          refine Exs.thn ?_
          refine Exs.thn ?_
          refine Exs.here ?_
          exact End.cut (i) (by omega) (Ent.mk (.i rfl (by first | rfl | omega | (simp; done) | (simp; omega) | assumption) <| .k rfl rfl <| .k rfl rfl <| .k rfl rfl <| .k rfl rfl <| .k rfl rfl <| .k rfl rfl <| .k rfl rfl <| .k rfl rfl <| .k rfl rfl <| .nil) (.a (by first | rfl | omega | (simp; done) | (simp; omega) | assumption) (by first | rfl | omega | (simp; done) | (simp; omega) | assumption) <| .a (by first | rfl | omega | (simp; done) | (simp; omega) | assumption) (by first | rfl | omega | (simp; done) | (simp; omega) | assumption) <| .nil) rfl)
      · rintro _ rfl
        refine End.norm (S' := [⟨27, true, _, _⟩, ⟨2, true, _, _⟩, ⟨3, true, _, _⟩, ⟨4, true, _, _⟩, ⟨5, true, _, _⟩, ⟨18, true, _, _⟩, ⟨19, true, _, _⟩, ⟨20, true, _, _⟩, ⟨25, true, _, _⟩, ⟨26, true, _, _⟩]) (M' := [⟨11, _, _⟩, ⟨15, _, _⟩]) rfl rfl ?_
        refine End.blk ?_
        refine End.nxt ?_
        refine Tr.rg ?_
        refine TrL.op (ok_add rfl (fun _ => rfl) rfl (fun _ => rfl) (fun _ => by omega)) rfl rfl ?_
        refine TrL.op (ok_move rfl (fun _ => rfl)) rfl rfl ?_
        refine TrL.fin ?_
        exact End.lp (k + 1) (by first | rfl | omega | (simp; done) | (simp; omega) | assumption) (by omega) (Ent.mk (.i rfl (by first | rfl | omega | (simp; done) | (simp; omega) | assumption) <| .k rfl rfl <| .k rfl rfl <| .k rfl rfl <| .k rfl rfl <| .nil) (.a (by rw [List.take_length]; rfl) (by first | rfl | omega | (simp; done) | (simp; omega) | assumption) <| .a (by rw [List.take_length]; rfl) (by first | rfl | omega | (simp; done) | (simp; omega) | assumption) <| .nil) rfl)
    · intro h3
      replace h3 := Int.not_lt.1 (of_decide_eq_false h3)
      refine Tr.exit ?_
      refine Exs.thn ?_
      refine Exs.thn ?_
      refine Exs.here ?_
      exact End.cut (k) (by omega) (Ent.mk (.i rfl (by first | rfl | omega | (simp; done) | (simp; omega) | assumption) <| .k rfl rfl <| .k rfl rfl <| .k rfl rfl <| .k rfl rfl <| .nil) (.a (by first | rfl | omega | (simp; done) | (simp; omega) | assumption) (by first | rfl | omega | (simp; done) | (simp; omega) | assumption) <| .a (by first | rfl | omega | (simp; done) | (simp; omega) | assumption) (by first | rfl | omega | (simp; done) | (simp; omega) | assumption) <| .nil) rfl)
  · rintro _ rfl
    refine End.norm (S' := [⟨20, true, _, _⟩, ⟨2, true, _, _⟩, ⟨3, true, _, _⟩, ⟨18, true, _, _⟩, ⟨19, true, _, _⟩]) (M' := [⟨11, _, _⟩, ⟨15, _, _⟩]) rfl rfl ?_
    refine End.nxt ?_
    refine Tr.seq ?_
    refine Tr.rg ?_
    refine TrL.op (ok_move rfl (fun _ => rfl)) rfl rfl ?_
    refine TrL.op (ok_move rfl (fun _ => rfl)) rfl rfl ?_
    refine TrL.op (ok_assign rfl (fun _ => rfl)) rfl rfl ?_
    refine TrL.op (ok_assign rfl (fun _ => rfl)) rfl rfl ?_
    refine TrL.fin ?_
    refine End.nxt ?_
    refine Tr.frz 11 [2] ⟨rfl, trivial⟩ (by simp only [lenMax]; omega) rfl ?_
    refine Tr.frz 15 [3] ⟨rfl, trivial⟩ (by simp only [lenMax]; omega) rfl ?_
    refine Tr.ret ?_
    exact Rts.res (fn := Try.f89) (ts := [2, 3]) rfl rfl (.r rfl (by rfl) <| .r rfl (by rfl) <| .nil)

set_option maxRecDepth 100000 in
theorem ct_rOrder (o : Ori) (x : Int) (v : Valid o) (hx : Sq o.1.length x) : Ct Try.prog 90 [kRd eO o, kI x] (kI (ordF o x)) := by
  have hv0 := v.pos
  have hv1 := v.len
  have hv2 := v.le
  have hps := v.pC.pers hx
  have hol := orb_len (p := comm o) (x := x)
  refine Ct.mk Try.func90 rfl Try.ntmps90 rfl (fun w J => ?_)
  refine Tr.seq ?_
  refine Tr.rg ?_
  refine TrL.new (ok_box 2 rfl (fun _ => rfl) rfl) rfl rfl rfl rfl ?_
  refine TrL.op (ok_assign rfl (fun _ => rfl)) rfl rfl ?_
  refine TrL.fin ?_
  refine End.nxt ?_
  refine Tr.seq ?_
  refine Tr.rg ?_
  refine TrL.op (ok_ldBS rfl (fun _ => rfl)) rfl rfl ?_
  refine TrL.op (ok_call (fun hp => ct_rComm _ v) (.s rfl (fun _ => rfl) rfl <| .nil)) rfl rfl ?_
  refine TrL.op (ok_move rfl (fun _ => rfl)) rfl rfl ?_
  refine TrL.op (ok_call (fun hp => ct_rCycle _ _ _ v.pC hx (by omega)) (.a rfl (fun _ => rfl) <| .a rfl (fun _ => rfl) <| .nil)) rfl rfl ?_
  refine TrL.op (ok_lenJ rfl (fun _ => rfl)) rfl rfl ?_
  refine TrL.op (ok_sub rfl (fun _ => rfl) rfl (fun _ => rfl) (fun _ => by omega)) rfl rfl ?_
  refine TrL.op (ok_assign rfl (fun _ => rfl)) rfl rfl ?_
  refine TrL.fin ?_
  refine End.nxt ?_
  refine Tr.ret ?_
  exact Rts.res1 (fn := Try.f90) rfl (.i rfl (by rfl) <| .nil)

set_option maxRecDepth 100000 in
theorem ct_rVertexOf (o : Ori) (x : Int) (v : Valid o) (hx : Sq o.1.length x) : Ct Try.prog 91 [kRd eO o, kI x] (kI (nth (vertL o) x.toNat)) := by
  have hv0 := v.pos
  have hv1 := v.len
  have hv2 := v.le
  have hvl := vtx_le (o := o)
  refine Ct.mk Try.func91 rfl Try.ntmps91 rfl (fun w J => ?_)
  refine Tr.seq ?_
  refine Tr.rg ?_
  refine TrL.new (ok_box 2 rfl (fun _ => rfl) rfl) rfl rfl rfl rfl ?_
  refine TrL.op (ok_assign rfl (fun _ => rfl)) rfl rfl ?_
  refine TrL.fin ?_
  refine End.nxt ?_
  refine Tr.seq ?_
  refine Tr.rg ?_
  refine TrL.op (ok_ldBS rfl (fun _ => rfl)) rfl rfl ?_
  refine TrL.op (ok_call (fun hp => ct_rVertices _ v) (.s rfl (fun _ => rfl) rfl <| .nil)) rfl rfl ?_
  refine TrL.op (ok_assign rfl (fun _ => rfl)) rfl rfl ?_
  refine TrL.fin ?_
  refine End.nxt ?_
  refine Tr.seq ?_
  refine Tr.seq ?_
  refine Tr.rg ?_
  refine TrL.op (ok_assign rfl (fun _ => rfl)) rfl rfl ?_
  refine TrL.fin ?_
  refine End.nxt ?_
  refine Tr.for1 (σ := Nat) [⟨1, true, _, _⟩, ⟨5, true, _, _⟩] [] (fun k => [⟨6, true, [], kI (k : Int)⟩]) (fun k => []) (fun k => k ≤ (vtx o).length ∧ ∀ i, i < k → x ∉ nth (vtx o) i) (fun k => ∀ i, i < (vtx o).length → x ∉ nth (vtx o) i) (fun k => (vtx o).length - k) (0) ⟨Nat.zero_le _, fun i h => absurd h (by omega)⟩ (Ent.mk (.i rfl (by first | rfl | omega | (simp; done) | (simp; omega) | assumption) <| .k rfl rfl <| .k rfl rfl <| .nil) (.nil) rfl) ?_ ?_
  · rintro k ⟨hk0, hR0⟩
    refine Tr.norm (S' := [⟨6, true, _, _⟩, ⟨1, true, _, _⟩, ⟨5, true, _, _⟩]) (M' := []) rfl rfl ?_
    refine Tr.seq ?_
    refine Tr.seq ?_
    refine Tr.rg ?_
    refine TrL.op (ok_move rfl (fun _ => rfl)) rfl rfl ?_
    refine TrL.op (ok_move rfl (fun _ => rfl)) rfl rfl ?_
    refine TrL.op (ok_lenJ rfl (fun _ => rfl)) rfl rfl ?_
    refine TrL.op (ok_lss rfl (fun _ => rfl) rfl (fun _ => rfl)) rfl rfl ?_
    refine TrL.fin ?_
    refine End.nxt ?_
    refine Tr.cnd rfl ?_ ?_
    · intro h3
      replace h3 := of_decide_eq_true h3
      refine Tr.skip ?_
      refine End.nxt ?_
      refine Tr.seq ?_
      refine Tr.blk ?_
      refine Tr.seq ?_
      refine Tr.rg ?_
      refine TrL.op (ok_move rfl (fun _ => rfl)) rfl rfl ?_
      refine TrL.op (ok_move rfl (fun _ => rfl)) rfl rfl ?_
      first | refine TrL.op (ok_idxN rfl (fun _ => rfl) rfl (fun _ => rfl) rfl (fun _ => by omega)) rfl rfl ?_ | refine TrL.op (ok_idxP rfl (fun _ => rfl) rfl (fun _ => rfl) rfl (fun _ => by omega)) rfl rfl ?_
      refine TrL.op (ok_ldP rfl (fun _ => rfl) rfl) rfl rfl ?_
      refine TrL.op (ok_move rfl (fun _ => rfl)) rfl rfl ?_
      refine TrL.op (ok_call (fun hp => ct_rAt _ _) (.a rfl (fun _ => rfl) <| .a rfl (fun _ => rfl) <| .nil)) rfl rfl ?_
      refine TrL.op (ok_geq rfl (fun _ => rfl) rfl (fun _ => rfl)) rfl rfl ?_
      refine TrL.fin ?_
      refine End.nxt ?_
      refine Tr.cnd rfl ?_ ?_
      · intro h5
        replace h5 := of_decide_eq_true h5
        refine Tr.seq ?_
        refine Tr.rg ?_
        refine TrL.op (ok_move rfl (fun _ => rfl)) rfl rfl ?_
        refine TrL.op (ok_assign rfl (fun _ => rfl)) rfl rfl ?_
        refine TrL.fin ?_
        refine End.nxt ?_
        refine Tr.ret ?_
        refine Rts.out ?_
        refine Rts.thn ?_
        refine Rts.thn ?_
        refine Rts.out ?_
        refine Rts.thn ?_
        refine Rts.thn ?_
        exact Rts.res1 (fn := Try.f91) rfl (.i rfl (nth_vertL v hx (by omega) (Classical.not_not.1 (fun hh => absurd (atL_neg.2 hh) (by omega)))).symm <| .nil)
      · intro h5
        replace h5 := Int.not_le.1 (of_decide_eq_false h5)
        refine Tr.skip ?_
        refine End.blk ?_
        refine End.nxt ?_
        refine Tr.rg ?_
        refine TrL.op (ok_move rfl (fun _ => rfl)) rfl rfl ?_
        refine TrL.op (ok_add rfl (fun _ => rfl) rfl (fun _ => rfl) (fun _ => by omega)) rfl rfl ?_
        refine TrL.op (ok_assign rfl (fun _ => rfl)) rfl rfl ?_
        refine TrL.fin ?_
        exact End.lp (k + 1) ⟨by omega, all_succ hR0 (atL_neg.1 h5)⟩ (by omega) (Ent.mk (.i rfl (by first | rfl | omega | (simp; done) | (simp; omega) | assumption) <| .k rfl rfl <| .k rfl rfl <| .nil) (.nil) rfl)
    · intro h3
      replace h3 := Int.not_lt.1 (of_decide_eq_false h3)
      refine Tr.exit ?_
      refine Exs.thn ?_
      refine Exs.thn ?_
      refine Exs.here ?_
      exact End.cut (k) (fun i hi => hR0 i (by omega)) (Ent.mk (.i rfl (by first | rfl | omega | (simp; done) | (simp; omega) | assumption) <| .k rfl rfl <| .k rfl rfl <| .nil) (.nil) rfl)
  · intro k hE0
    refine End.norm (S' := [⟨6, true, _, _⟩, ⟨1, true, _, _⟩, ⟨5, true, _, _⟩]) (M' := []) rfl rfl ?_
    refine End.nxt ?_
    refine Tr.seq ?_
    refine Tr.rg ?_
    refine TrL.op (ok_assign rfl (fun _ => rfl)) rfl rfl ?_
    refine TrL.fin ?_
    refine End.nxt ?_
    refine Tr.ret ?_
    exact Rts.res1 (fn := Try.f91) rfl (.i rfl (vof_not v hx hE0).elim <| .nil)

set_option maxRecDepth 100000 in
set_option maxHeartbeats 1000000 in
theorem ct_oSaddles (o : Ori) : Ct Try.prog 42 [kRd eO o] (kTup [kRd (eL eSad) (if chkO o = 0 then sadL o o.1.length else []), kI (chkO o)]) := by
  refine Ct.mk Try.func42 rfl Try.ntmps42 rfl (fun w J => ?_)
  refine Tr.seq ?_
  refine Tr.rg ?_
  refine TrL.new (ok_box 1 rfl (fun _ => rfl) rfl) rfl rfl rfl rfl ?_
  refine TrL.op (ok_assign rfl (fun _ => rfl)) rfl rfl ?_
  refine TrL.op (ok_assign rfl (fun _ => rfl)) rfl rfl ?_
  refine TrL.fin ?_
  refine End.nxt ?_
  refine Tr.seq ?_
  refine Tr.seq ?_
  refine Tr.rg ?_
  refine TrL.op (ok_ldBS rfl (fun _ => rfl)) rfl rfl ?_
  refine TrL.op (ok_call (fun hp => ct_oCheck _) (.s rfl (fun _ => rfl) rfl <| .nil)) rfl rfl ?_
  refine TrL.op (ok_assign rfl (fun _ => rfl)) rfl rfl ?_
  refine TrL.fin ?_
  refine End.nxt ?_
  refine Tr.seq ?_
  refine Tr.rg ?_
  refine TrL.op (ok_move rfl (fun _ => rfl)) rfl rfl ?_
  refine TrL.op (ok_neq rfl (fun _ => rfl) rfl (fun _ => rfl)) rfl rfl ?_
  refine TrL.fin ?_
  refine End.nxt ?_
  refine Tr.cnd rfl ?_ ?_
  · intro h2
    replace h2 := of_decide_eq_true h2
    refine Tr.seq ?_
    refine Tr.rg ?_
    refine TrL.op (ok_move rfl (fun _ => rfl)) rfl rfl ?_
    refine TrL.op (ok_assign rfl (fun _ => rfl)) rfl rfl ?_
    refine TrL.op (ok_assign rfl (fun _ => rfl)) rfl rfl ?_
    refine TrL.fin ?_
    refine End.nxt ?_
    refine Tr.ret ?_
    refine Rts.thn ?_
    exact Rts.res (fn := Try.f42) (ts := [2, 3]) rfl rfl (.n rfl (by rw [if_neg h2]) <| .i rfl (by first | rfl | omega | (simp; done) | (simp; omega) | assumption) <| .nil)
  · intro h2
    replace h2 := Classical.not_not.1 (of_decide_eq_false h2)
    have v : Valid o := valid_of h2
    have hv0 := v.pos
    have hv1 := v.len
    have hv2 := v.le
    have hoL : (ordV o).length = o.1.length := rowTo_len
    have hvL := vertL_len (o := o)
    have hiL := invL_len o.2
    have hR := v.pR
    have hU := v.pU
    refine Tr.skip ?_
    refine End.nxt ?_
    refine Tr.seq ?_
    refine Tr.rg ?_
    refine TrL.op (ok_ldBS rfl (fun _ => rfl)) rfl rfl ?_
    refine TrL.op (ok_call (fun hp => ct_orders _ v) (.s rfl (fun _ => rfl) rfl <| .nil)) rfl rfl ?_
    refine TrL.op (ok_move rfl (fun _ => rfl)) rfl rfl ?_
    refine TrL.op (ok_ext rfl (fun _ => rfl) rfl) rfl rfl ?_
    refine TrL.op (ok_ext rfl (fun _ => rfl) rfl) rfl rfl ?_
    refine TrL.op (ok_assign rfl (fun _ => rfl)) rfl rfl ?_
    refine TrL.op (ok_assign rfl (fun _ => rfl)) rfl rfl ?_
    refine TrL.fin ?_
    refine End.nxt ?_
    refine Tr.seq ?_
    refine Tr.rg ?_
    refine TrL.op (ok_fldO rfl (fun _ => rfl)) rfl rfl ?_
    refine TrL.op (ok_ldB rfl (fun _ => rfl) rfl) rfl rfl ?_
    refine TrL.op (ok_call (fun hp => ct_oinv _ v.l2 v.r2) (.a rfl (fun _ => rfl) <| .nil)) rfl rfl ?_
    refine TrL.op (ok_assign rfl (fun _ => rfl)) rfl rfl ?_
    refine TrL.fin ?_
    refine End.nxt ?_
    refine Tr.seq ?_
    refine Tr.rg ?_
    refine TrL.new (ok_makeMap 28) rfl rfl rfl rfl ?_
    refine TrL.op (ok_assign rfl (fun _ => rfl)) rfl rfl ?_
    refine TrL.fin ?_
    refine End.nxt ?_
    refine Tr.seq ?_
    refine Tr.seq ?_
    refine Tr.rg ?_
    refine TrL.op (ok_fldO rfl (fun _ => rfl)) rfl rfl ?_
    refine TrL.op (ok_ldB rfl (fun _ => rfl) rfl) rfl rfl ?_
    refine TrL.op (ok_lenJ rfl (fun _ => rfl)) rfl rfl ?_
    refine TrL.op (ok_move rfl (fun _ => rfl)) rfl rfl ?_
    refine TrL.fin ?_
    refine End.nxt ?_
    refine Tr.for1 (σ := Nat) [⟨1, true, _, _⟩, ⟨5, true, _, _⟩, ⟨6, true, _, _⟩, ⟨7, true, _, _⟩, ⟨8, true, _, _⟩, ⟨31, true, _, _⟩] [⟨1, _, _⟩] (fun k => [⟨32, true, [], kI (k : Int)⟩]) (fun k => [⟨28, [], cMapI (sqL o k) (sqs (sqL o k).length)⟩]) (fun k => k ≤ o.1.length) (fun k => k = o.1.length) (fun k => o.1.length - k) (0) (Nat.zero_le _) (Ent.mk (.i rfl (by first | rfl | omega | (simp; done) | (simp; omega) | assumption) <| .k rfl rfl <| .k rfl rfl <| .k rfl rfl <| .k rfl rfl <| .k rfl rfl <| .k rfl rfl <| .nil) (.conv (fun _ _ _ h => ⟨rfl, h⟩) rfl <| .k rfl <| .nil) rfl) ?_ ?_
    · intro k hR0
      refine Tr.norm (S' := [⟨32, true, _, _⟩, ⟨1, true, _, _⟩, ⟨5, true, _, _⟩, ⟨6, true, _, _⟩, ⟨7, true, _, _⟩, ⟨8, true, _, _⟩, ⟨31, true, _, _⟩]) (M' := [⟨28, _, _⟩, ⟨1, _, _⟩]) rfl rfl ?_
      refine Tr.seq ?_
      refine Tr.rg ?_
      refine TrL.op (ok_lss rfl (fun _ => rfl) rfl (fun _ => rfl)) rfl rfl ?_
      refine TrL.fin ?_
      refine End.nxt ?_
      refine Tr.seq ?_
      refine Tr.cnd rfl ?_ ?_
      · intro h8
        replace h8 := of_decide_eq_true h8
        have hks : Sq o.1.length (k : Int) := Sq.nat (by omega)
        have hok : nth (ordV o) k = ordF o k := nth_ordV v hks
        refine Tr.skip ?_
        refine End.nxt ?_
        refine Tr.seq ?_
        refine Tr.blk ?_
        refine Tr.seq ?_
        refine Tr.rg ?_
        refine TrL.op (ok_move rfl (fun _ => rfl)) rfl rfl ?_
        refine TrL.op (ok_assign rfl (fun _ => rfl)) rfl rfl ?_
        refine TrL.fin ?_
        refine End.nxt ?_
        refine Tr.seq ?_
        refine Tr.rg ?_
        refine TrL.op (ok_move rfl (fun _ => rfl)) rfl rfl ?_
        refine TrL.op (ok_move rfl (fun _ => rfl)) rfl rfl ?_
        first | refine TrL.op (ok_idxN rfl (fun _ => rfl) rfl (fun _ => rfl) rfl (fun _ => by omega)) rfl rfl ?_ | refine TrL.op (ok_idxP rfl (fun _ => rfl) rfl (fun _ => rfl) rfl (fun _ => by omega)) rfl rfl ?_
        refine TrL.op (ok_ldP rfl (fun _ => rfl) rfl) rfl rfl ?_
        refine TrL.op (ok_gtr rfl (fun _ => rfl) rfl (fun _ => rfl)) rfl rfl ?_
        refine TrL.fin ?_
        refine End.nxt ?_
        refine Tr.cnd rfl ?_ ?_
        · intro h10
          replace h10 := of_decide_eq_true h10
          have hkp : 0 < ordF o k := by omega
          refine Tr.rg ?_
          refine TrL.op (ok_move rfl (fun _ => rfl)) rfl rfl ?_
          refine TrL.op (ok_move rfl (fun _ => rfl)) rfl rfl ?_
          refine TrL.op (ok_move rfl (fun _ => rfl)) rfl rfl ?_
          refine TrL.op (ok_lenMI rfl (fun _ => rfl)) rfl rfl ?_
          refine TrL.updI rfl rfl rfl (fun q => by simp [MapKept.IsKey]) (fun hh => by have := (mem_sqL.1 hh).1.2; omega) ?_
          refine TrL.fin ?_
          refine End.blk ?_
          refine End.nxt ?_
          refine Tr.rg ?_
          refine TrL.op (ok_add rfl (fun _ => rfl) rfl (fun _ => rfl) (fun _ => by omega)) rfl rfl ?_
          refine TrL.op (ok_move rfl (fun _ => rfl)) rfl rfl ?_
          refine TrL.fin ?_
          exact End.lp (k + 1) (by first | rfl | omega | (simp; done) | (simp; omega) | assumption) (by omega) (Ent.mk (.i rfl (by first | rfl | omega | (simp; done) | (simp; omega) | assumption) <| .k rfl rfl <| .k rfl rfl <| .k rfl rfl <| .k rfl rfl <| .k rfl rfl <| .k rfl rfl <| .nil) (.e (by rw [sqL_in hkp, List.length_append, List.length_singleton, sqs_succ]) rfl <| .k rfl <| .nil) rfl)
        · intro h10
          replace h10 := Int.not_lt.1 (of_decide_eq_false h10)
          have hkp : ¬ 0 < ordF o k := by omega
          refine Tr.skip ?_
          refine End.blk ?_
          refine End.nxt ?_
          refine Tr.rg ?_
          refine TrL.op (ok_add rfl (fun _ => rfl) rfl (fun _ => rfl) (fun _ => by omega)) rfl rfl ?_
          refine TrL.op (ok_move rfl (fun _ => rfl)) rfl rfl ?_
          refine TrL.fin ?_
          exact End.lp (k + 1) (by first | rfl | omega | (simp; done) | (simp; omega) | assumption) (by omega) (Ent.mk (.i rfl (by first | rfl | omega | (simp; done) | (simp; omega) | assumption) <| .k rfl rfl <| .k rfl rfl <| .k rfl rfl <| .k rfl rfl <| .k rfl rfl <| .k rfl rfl <| .nil) (.e (by rw [sqL_out hkp]) rfl <| .k rfl <| .nil) rfl)
      · intro h8
        replace h8 := Int.not_lt.1 (of_decide_eq_false h8)
        refine Tr.exit ?_
        refine Exs.thn ?_
        refine Exs.thn ?_
        refine Exs.here ?_
        exact End.cut (k) (by omega) (Ent.mk (.i rfl (by first | rfl | omega | (simp; done) | (simp; omega) | assumption) <| .k rfl rfl <| .k rfl rfl <| .k rfl rfl <| .k rfl rfl <| .k rfl rfl <| .k rfl rfl <| .nil) (.k rfl <| .k rfl <| .nil) rfl)
    · rintro _ rfl
      refine End.norm (S' := [⟨32, true, _, _⟩, ⟨1, true, _, _⟩, ⟨5, true, _, _⟩, ⟨6, true, _, _⟩, ⟨7, true, _, _⟩, ⟨8, true, _, _⟩, ⟨31, true, _, _⟩]) (M' := [⟨28, _, _⟩, ⟨1, _, _⟩]) rfl rfl ?_
      refine End.nxt ?_
      refine Tr.seq ?_
      refine Tr.rg ?_
      refine TrL.op (ok_assign rfl (fun _ => rfl)) rfl rfl ?_
      refine TrL.fin ?_
      refine End.nxt ?_
      refine Tr.seq ?_
      refine Tr.seq ?_
      refine Tr.rg ?_
      refine TrL.op (ok_fldO rfl (fun _ => rfl)) rfl rfl ?_
      refine TrL.op (ok_ldB rfl (fun _ => rfl) rfl) rfl rfl ?_
      refine TrL.op (ok_lenJ rfl (fun _ => rfl)) rfl rfl ?_
      refine TrL.op (ok_move rfl (fun _ => rfl)) rfl rfl ?_
      refine TrL.fin ?_
      refine End.nxt ?_
      refine Tr.grow (s := 10) rfl rfl 10 rfl 62 eSad rfl ?_
      refine Tr.for1 (σ := Nat) [⟨1, true, _, _⟩, ⟨5, true, _, _⟩, ⟨6, true, _, _⟩, ⟨7, true, _, _⟩, ⟨8, true, _, _⟩, ⟨47, true, _, _⟩] [⟨1, _, _⟩, ⟨28, _, _⟩] (fun k => [⟨10, true, [10], kOsl 10 (sadL o k).length⟩, ⟨48, true, [], kI (k : Int)⟩]) (fun k => [⟨10, [], cArr true 62 eSad (sadL o k) (sadL o k).length⟩]) (fun k => k ≤ o.1.length) (fun k => k = o.1.length) (fun k => o.1.length - k) (0) (Nat.zero_le _) (Ent.mk (.o rfl (by first | rfl | omega | (simp; done) | (simp; omega) | assumption) rfl <| .i rfl (by first | rfl | omega | (simp; done) | (simp; omega) | assumption) <| .k rfl rfl <| .k rfl rfl <| .k rfl rfl <| .k rfl rfl <| .k rfl rfl <| .k rfl rfl <| .nil) (.a (by rfl) (by first | rfl | omega | (simp; done) | (simp; omega) | assumption) <| .k rfl <| .k rfl <| .nil) rfl) ?_ ?_
      · intro k hR1
        refine Tr.norm (S' := [⟨10, true, _, _⟩, ⟨48, true, _, _⟩, ⟨1, true, _, _⟩, ⟨5, true, _, _⟩, ⟨6, true, _, _⟩, ⟨7, true, _, _⟩, ⟨8, true, _, _⟩, ⟨47, true, _, _⟩]) (M' := [⟨10, _, _⟩, ⟨1, _, _⟩, ⟨28, _, _⟩]) rfl rfl ?_
        have hsl := sadL_len (o := o) (k := k)
        refine Tr.seq ?_
        refine Tr.rg ?_
        refine TrL.op (ok_lss rfl (fun _ => rfl) rfl (fun _ => rfl)) rfl rfl ?_
        refine TrL.fin ?_
        refine End.nxt ?_
        refine Tr.seq ?_
        refine Tr.cnd rfl ?_ ?_
        · intro h15
          replace h15 := of_decide_eq_true h15
          have hks : Sq o.1.length (k : Int) := Sq.nat (by omega)
          have hok : nth (ordV o) k = ordF o k := nth_ordV v hks
          have hnn := ordF_nonneg v hks
          refine Tr.skip ?_
          refine End.nxt ?_
          refine Tr.seq ?_
          refine Tr.blk ?_
          refine Tr.seq ?_
          refine Tr.rg ?_
          refine TrL.op (ok_move rfl (fun _ => rfl)) rfl rfl ?_
          refine TrL.op (ok_assign rfl (fun _ => rfl)) rfl rfl ?_
          refine TrL.fin ?_
          refine End.nxt ?_
          refine Tr.seq ?_
          refine Tr.seq ?_
          refine Tr.rg ?_
          refine TrL.op (ok_move rfl (fun _ => rfl)) rfl rfl ?_
          refine TrL.op (ok_move rfl (fun _ => rfl)) rfl rfl ?_
          first | refine TrL.op (ok_idxN rfl (fun _ => rfl) rfl (fun _ => rfl) rfl (fun _ => by omega)) rfl rfl ?_ | refine TrL.op (ok_idxP rfl (fun _ => rfl) rfl (fun _ => rfl) rfl (fun _ => by omega)) rfl rfl ?_
          refine TrL.op (ok_ldP rfl (fun _ => rfl) rfl) rfl rfl ?_
          refine TrL.op (ok_eql rfl (fun _ => rfl) rfl (fun _ => rfl)) rfl rfl ?_
          refine TrL.fin ?_
          refine End.nxt ?_
          refine Tr.cnd rfl ?_ ?_
          · intro h17
            replace h17 := of_decide_eq_true h17
            have hkp : ¬ 0 < ordF o k := by omega
            refine Tr.exit ?_
            refine Exs.thn ?_
            refine Exs.here ?_
            refine End.nxt ?_
            refine Tr.rg ?_
            refine TrL.op (ok_add rfl (fun _ => rfl) rfl (fun _ => rfl) (fun _ => by omega)) rfl rfl ?_
            refine TrL.op (ok_move rfl (fun _ => rfl)) rfl rfl ?_
            refine TrL.fin ?_
            exact End.lp (k + 1) (by first | rfl | omega | (simp; done) | (simp; omega) | assumption) (by omega) (Ent.mk (.o rfl (by rw [sadL_out hkp]) rfl <| .i rfl (by first | rfl | omega | (simp; done) | (simp; omega) | assumption) <| .k rfl rfl <| .k rfl rfl <| .k rfl rfl <| .k rfl rfl <| .k rfl rfl <| .k rfl rfl <| .nil) (.a (by rw [sadL_out hkp]) (by rw [sadL_out hkp]) <| .k rfl <| .k rfl <| .nil) rfl)
          · intro h17
            replace h17 := of_decide_eq_false h17
            have hkp : 0 < ordF o k := by omega
            obtain ⟨hs1, hs2, hs3, hs4⟩ := sadN_spec v hks hkp
            obtain ⟨hm1, hm2⟩ := sad_mem v hks hkp
            refine Tr.skip ?_
            refine End.nxt ?_
            refine Tr.seq ?_
            refine Tr.rg ?_
            refine TrL.op (ok_move rfl (fun _ => rfl)) rfl rfl ?_
            refine TrL.op (ok_assign rfl (fun _ => rfl)) rfl rfl ?_
            refine TrL.op (ok_assign rfl (fun _ => rfl)) rfl rfl ?_
            refine TrL.fin ?_
            refine End.nxt ?_
            refine Tr.for (σ := Nat) [⟨1, true, _, _⟩, ⟨5, true, _, _⟩, ⟨6, true, _, _⟩, ⟨7, true, _, _⟩, ⟨8, true, _, _⟩, ⟨10, true, _, _⟩, ⟨11, true, _, _⟩, ⟨47, true, _, _⟩, ⟨48, true, _, _⟩] [⟨1, _, _⟩, ⟨28, _, _⟩, ⟨10, _, _⟩] (fun m => [⟨12, true, [], kI (it o.1 (m - 1) k)⟩, ⟨13, true, [], kI (m : Int)⟩]) (fun m => []) (fun m => 1 ≤ m ∧ m ≤ sadN o k) (fun m => m = sadN o k) (fun m => sadN o k - m) (1) ⟨Nat.le_refl _, hs2⟩ (Ent.mk (.i rfl (by rfl) <| .i rfl (by first | rfl | omega | (simp; done) | (simp; omega) | assumption) <| .k rfl rfl <| .k rfl rfl <| .k rfl rfl <| .k rfl rfl <| .k rfl rfl <| .k rfl rfl <| .k rfl rfl <| .k rfl rfl <| .k rfl rfl <| .nil) (.k rfl <| .k rfl <| .k rfl <| .nil) rfl) ?_ ?_
            · rintro m ⟨hm0, hml⟩
              refine Tr.norm (S' := [⟨12, true, _, _⟩, ⟨13, true, _, _⟩, ⟨1, true, _, _⟩, ⟨5, true, _, _⟩, ⟨6, true, _, _⟩, ⟨7, true, _, _⟩, ⟨8, true, _, _⟩, ⟨10, true, _, _⟩, ⟨11, true, _, _⟩, ⟨47, true, _, _⟩, ⟨48, true, _, _⟩]) (M' := [⟨1, _, _⟩, ⟨28, _, _⟩, ⟨10, _, _⟩]) rfl rfl ?_
              have hq := hR.its hks (m - 1)
              have hq0 := hq.1
              have hq1 := hq.2
              have hnx : nth o.1 (it o.1 (m - 1) k).toNat = it o.1 m k := (by (obtain ⟨r, rfl⟩ : ∃ r, m = r + 1 := ⟨m - 1, by omega⟩); rfl)
              have hqm := hR.its hks m
              have hon : nth (ordV o) (nth o.1 (it o.1 (m - 1) k).toNat).toNat = ordF o (it o.1 m k) := by rw [hnx]; exact nth_ordV v hqm
              have hqr : 0 ≤ nth o.1 (it o.1 (m - 1) k).toNat ∧ nth o.1 (it o.1 (m - 1) k).toNat < o.1.length := by rw [hnx]; exact hqm
              refine Tr.seq ?_
              refine Tr.seq ?_
              refine Tr.rg ?_
              refine TrL.op (ok_move rfl (fun _ => rfl)) rfl rfl ?_
              refine TrL.op (ok_fldO rfl (fun _ => rfl)) rfl rfl ?_
              refine TrL.op (ok_ldB rfl (fun _ => rfl) rfl) rfl rfl ?_
              refine TrL.op (ok_move rfl (fun _ => rfl)) rfl rfl ?_
              first | refine TrL.op (ok_idxN rfl (fun _ => rfl) rfl (fun _ => rfl) rfl (fun _ => by omega)) rfl rfl ?_ | refine TrL.op (ok_idxP rfl (fun _ => rfl) rfl (fun _ => rfl) rfl (fun _ => by omega)) rfl rfl ?_
              refine TrL.op (ok_ldP rfl (fun _ => rfl) rfl) rfl rfl ?_
              first | refine TrL.op (ok_idxN rfl (fun _ => rfl) rfl (fun _ => rfl) rfl (fun _ => by omega)) rfl rfl ?_ | refine TrL.op (ok_idxP rfl (fun _ => rfl) rfl (fun _ => rfl) rfl (fun _ => by omega)) rfl rfl ?_
              refine TrL.op (ok_ldP rfl (fun _ => rfl) rfl) rfl rfl ?_
              refine TrL.op (ok_eql rfl (fun _ => rfl) rfl (fun _ => rfl)) rfl rfl ?_
              refine TrL.fin ?_
              refine End.nxt ?_
              refine Tr.cnd rfl ?_ ?_
              · intro h19
                replace h19 := of_decide_eq_true h19
                have hone := (sadN_at v hks hkp hm0 hml).1 (by rw [← hon]; exact h19)
                refine Tr.skip ?_
                refine End.nxt ?_
                refine Tr.blk ?_
                refine Tr.seq ?_
                refine Tr.rg ?_
                refine TrL.op (ok_fldO rfl (fun _ => rfl)) rfl rfl ?_
                refine TrL.op (ok_ldB rfl (fun _ => rfl) rfl) rfl rfl ?_
                refine TrL.op (ok_move rfl (fun _ => rfl)) rfl rfl ?_
                first | refine TrL.op (ok_idxN rfl (fun _ => rfl) rfl (fun _ => rfl) rfl (fun _ => by omega)) rfl rfl ?_ | refine TrL.op (ok_idxP rfl (fun _ => rfl) rfl (fun _ => rfl) rfl (fun _ => by omega)) rfl rfl ?_
                refine TrL.op (ok_ldP rfl (fun _ => rfl) rfl) rfl rfl ?_
                refine TrL.op (ok_assign rfl (fun _ => rfl)) rfl rfl ?_
                refine TrL.fin ?_
                refine End.nxt ?_
                refine Tr.rg ?_
                refine TrL.op (ok_move rfl (fun _ => rfl)) rfl rfl ?_
                refine TrL.op (ok_add rfl (fun _ => rfl) rfl (fun _ => rfl) (fun _ => by omega)) rfl rfl ?_
                refine TrL.op (ok_assign rfl (fun _ => rfl)) rfl rfl ?_
                refine TrL.fin ?_
                refine End.blk ?_
                exact End.lp (m + 1) ⟨by omega, hone⟩ (by omega) (Ent.mk (.i rfl (by rw [hnx]; rfl) <| .i rfl (by first | rfl | omega | (simp; done) | (simp; omega) | assumption) <| .k rfl rfl <| .k rfl rfl <| .k rfl rfl <| .k rfl rfl <| .k rfl rfl <| .k rfl rfl <| .k rfl rfl <| .k rfl rfl <| .k rfl rfl <| .nil) (.k rfl <| .k rfl <| .k rfl <| .nil) rfl)
              · intro h19
                replace h19 := of_decide_eq_false h19
                have hone := (sadN_at v hks hkp hm0 hml).2 (by rw [← hon]; exact h19)
                refine Tr.exit ?_
                refine Exs.thn ?_
                refine Exs.thn ?_
                refine Exs.here ?_
                exact End.cut (m) hone (Ent.mk (.i rfl (by first | rfl | omega | (simp; done) | (simp; omega) | assumption) <| .i rfl (by first | rfl | omega | (simp; done) | (simp; omega) | assumption) <| .k rfl rfl <| .k rfl rfl <| .k rfl rfl <| .k rfl rfl <| .k rfl rfl <| .k rfl rfl <| .k rfl rfl <| .k rfl rfl <| .k rfl rfl <| .nil) (.k rfl <| .k rfl <| .k rfl <| .nil) rfl)
            · rintro _ rfl
              refine Tr.norm (S' := [⟨12, true, _, _⟩, ⟨13, true, _, _⟩, ⟨1, true, _, _⟩, ⟨5, true, _, _⟩, ⟨6, true, _, _⟩, ⟨7, true, _, _⟩, ⟨8, true, _, _⟩, ⟨10, true, _, _⟩, ⟨11, true, _, _⟩, ⟨47, true, _, _⟩, ⟨48, true, _, _⟩]) (M' := [⟨1, _, _⟩, ⟨28, _, _⟩, ⟨10, _, _⟩]) rfl rfl ?_
              have hq := hR.its hks (sadN o k - 1)
              have hq0 := hq.1
              have hq1 := hq.2
              have hnx : nth o.1 (it o.1 (sadN o k - 1) k).toNat = it o.1 (sadN o k) k := (by (obtain ⟨r, hr⟩ : ∃ r, sadN o k = r + 1 := ⟨sadN o k - 1, by omega⟩); rw [hr]; rfl)
              have hqm := hR.its hks (sadN o k)
              have hqr : 0 ≤ nth o.1 (it o.1 (sadN o k - 1) k).toNat ∧ nth o.1 (it o.1 (sadN o k - 1) k).toNat < o.1.length := by rw [hnx]; exact hqm
              have hd : 0 ≤ nth (invL o.2) (it o.1 (sadN o k - 1) k).toNat ∧ nth (invL o.2) (it o.1 (sadN o k - 1) k).toNat < o.1.length := hU.inv.aps hq
              have hd2 := v.ri (i := (nth (invL o.2) (it o.1 (sadN o k - 1) k).toNat).toNat) (by omega)
              have hd3 := v.ui (i := (nth o.1 (nth (invL o.2) (it o.1 (sadN o k - 1) k).toNat).toNat).toNat) (by omega)
              refine Tr.seq ?_
              refine Tr.rg ?_
              refine TrL.op (ok_fldO rfl (fun _ => rfl)) rfl rfl ?_
              refine TrL.op (ok_ldB rfl (fun _ => rfl) rfl) rfl rfl ?_
              refine TrL.op (ok_move rfl (fun _ => rfl)) rfl rfl ?_
              first | refine TrL.op (ok_idxN rfl (fun _ => rfl) rfl (fun _ => rfl) rfl (fun _ => by omega)) rfl rfl ?_ | refine TrL.op (ok_idxP rfl (fun _ => rfl) rfl (fun _ => rfl) rfl (fun _ => by omega)) rfl rfl ?_
              refine TrL.op (ok_ldP rfl (fun _ => rfl) rfl) rfl rfl ?_
              refine TrL.op (ok_assign rfl (fun _ => rfl)) rfl rfl ?_
              refine TrL.fin ?_
              refine End.nxt ?_
              refine Tr.draw 30 mixed (by kernel_rfl) ?_
              refine RunD.op (ok_move rfl (fun _ => rfl)) rfl rfl ?_
              refine RunD.op (ok_move rfl (fun _ => rfl)) rfl rfl ?_
              refine RunD.op (ok_move rfl (fun _ => rfl)) rfl rfl ?_
              refine RunD.op (ok_move rfl (fun _ => rfl)) rfl rfl ?_
              refine RunD.op (ok_move rfl (fun _ => rfl)) rfl rfl ?_
              first | refine RunD.op (ok_idxN rfl (fun _ => rfl) rfl (fun _ => rfl) rfl (fun _ => by omega)) rfl rfl ?_ | refine RunD.op (ok_idxP rfl (fun _ => rfl) rfl (fun _ => rfl) rfl (fun _ => by omega)) rfl rfl ?_
              refine RunD.op (ok_ldP rfl (fun _ => rfl) rfl) rfl rfl ?_
              refine RunD.op (ok_move rfl (fun _ => rfl)) rfl rfl ?_
              refine RunD.op (ok_move rfl (fun _ => rfl)) rfl rfl ?_
              first | refine RunD.op (ok_idxN rfl (fun _ => rfl) rfl (fun _ => rfl) rfl (fun _ => by omega)) rfl rfl ?_ | refine RunD.op (ok_idxP rfl (fun _ => rfl) rfl (fun _ => rfl) rfl (fun _ => by omega)) rfl rfl ?_
              refine RunD.op (ok_ldP rfl (fun _ => rfl) rfl) rfl rfl ?_
              refine RunD.op (ok_move rfl (fun _ => rfl)) rfl rfl ?_
              refine RunD.op (ok_move rfl (fun _ => rfl)) rfl rfl ?_
              refine RunD.op (ok_lookI (n := atL (sqL o o.1.length) (it o.1 (sadN o k) k)) rfl (fun _ => rfl) rfl (fun _ => rfl) (fun q => by simp [MapKept.IsKey]) (fun _ => by rw [hnx]; exact sqL_look hm1) (fun _ => sqL_nodup)) rfl rfl ?_
              refine RunD.op (ok_move rfl (fun _ => rfl)) rfl rfl ?_
              refine RunD.op (ok_fldO rfl (fun _ => rfl)) rfl rfl ?_
              refine RunD.op (ok_ldB rfl (fun _ => rfl) rfl) rfl rfl ?_
              refine RunD.op (ok_fldO rfl (fun _ => rfl)) rfl rfl ?_
              refine RunD.op (ok_ldB rfl (fun _ => rfl) rfl) rfl rfl ?_
              refine RunD.op (ok_move rfl (fun _ => rfl)) rfl rfl ?_
              refine RunD.op (ok_move rfl (fun _ => rfl)) rfl rfl ?_
              first | refine RunD.op (ok_idxN rfl (fun _ => rfl) rfl (fun _ => rfl) rfl (fun _ => by omega)) rfl rfl ?_ | refine RunD.op (ok_idxP rfl (fun _ => rfl) rfl (fun _ => rfl) rfl (fun _ => by omega)) rfl rfl ?_
              refine RunD.op (ok_ldP rfl (fun _ => rfl) rfl) rfl rfl ?_
              first | refine RunD.op (ok_idxN rfl (fun _ => rfl) rfl (fun _ => rfl) rfl (fun _ => by omega)) rfl rfl ?_ | refine RunD.op (ok_idxP rfl (fun _ => rfl) rfl (fun _ => rfl) rfl (fun _ => by omega)) rfl rfl ?_
              refine RunD.op (ok_ldP rfl (fun _ => rfl) rfl) rfl rfl ?_
              first | refine RunD.op (ok_idxN rfl (fun _ => rfl) rfl (fun _ => rfl) rfl (fun _ => by omega)) rfl rfl ?_ | refine RunD.op (ok_idxP rfl (fun _ => rfl) rfl (fun _ => rfl) rfl (fun _ => by omega)) rfl rfl ?_
              refine RunD.op (ok_ldP rfl (fun _ => rfl) rfl) rfl rfl ?_
              refine RunD.op (ok_lookI (n := atL (sqL o o.1.length) (ap o.2 (ap o.1 (ap (invL o.2) (it o.1 (sadN o k - 1) k))))) rfl (fun _ => rfl) rfl (fun _ => rfl) (fun q => by simp [MapKept.IsKey]) (fun _ => sqL_look hm2) (fun _ => sqL_nodup)) rfl rfl ?_
              refine RunD.op (ok_build (fun hp => .cons rfl rfl rfl <| .cons rfl rfl rfl <| .cons rfl rfl rfl <| .cons rfl rfl rfl <| .cons rfl rfl rfl <| .cons rfl rfl rfl <| .nil)) rfl rfl ?_
              refine RunD.new (ok_bsl eSad 107 (fun hp => .cons rfl <| .nil) rfl rfl rfl rfl) rfl rfl rfl rfl ?_
              refine RunD.z ?_
              refine TrL.app rfl rfl rfl rfl rfl rfl rfl rfl (by first | omega | (simp only [List.length_cons, List.length_nil]; omega)) (by first | omega | (simp only [List.length_cons, List.length_nil]; omega)) ?_
              refine TrL.norm (S' := ⟨_, _, _, _⟩ :: ⟨_, _, _, _⟩ :: ⟨_, _, _, _⟩ :: ⟨_, _, _, _⟩ :: ⟨_, _, _, _⟩ :: ⟨_, _, _, _⟩ :: ⟨_, _, _, _⟩ :: ⟨_, _, _, _⟩ :: ⟨_, _, _, _⟩ :: ⟨_, _, _, _⟩ :: ⟨_, _, _, _⟩ :: ⟨_, _, _, _⟩ :: ⟨_, _, _, _⟩ :: ⟨_, _, _, _⟩ :: ⟨_, _, _, _⟩ :: ⟨_, _, _, _⟩ :: ⟨_, _, _, _⟩ :: ⟨_, _, _, _⟩ :: ⟨_, _, _, _⟩ :: ⟨_, _, _, _⟩ :: ⟨_, _, _, _⟩ :: ⟨_, _, _, _⟩ :: ⟨_, _, _, _⟩ :: ⟨_, _, _, _⟩ :: ⟨_, _, _, _⟩ :: ⟨_, _, _, _⟩ :: ⟨_, _, _, _⟩ :: ⟨_, _, _, _⟩ :: ⟨_, _, _, _⟩ :: ⟨_, _, _, _⟩ :: ⟨_, _, _, _⟩ :: ⟨_, _, _, _⟩ :: ⟨_, _, _, _⟩ :: ⟨_, _, _, _⟩ :: ⟨_, _, _, _⟩ :: ⟨_, _, _, _⟩ :: ⟨_, _, _, _⟩ :: ⟨_, _, _, _⟩ :: ⟨_, _, _, _⟩ :: ⟨_, _, _, _⟩ :: ⟨_, _, _, _⟩ :: ⟨_, _, _, _⟩ :: ⟨_, _, _, _⟩ :: ⟨_, _, _, _⟩ :: ⟨_, _, _, _⟩ :: ⟨_, _, _, _⟩ :: ⟨_, _, _, _⟩ :: ⟨_, _, _, _⟩ :: []) rfl rfl ?_
              refine TrL.op (ok_assign rfl (fun _ => rfl)) rfl rfl ?_
              refine TrL.fin ?_
              refine End.blk ?_
              refine End.nxt ?_
              refine Tr.rg ?_
              refine TrL.op (ok_add rfl (fun _ => rfl) rfl (fun _ => rfl) (fun _ => by omega)) rfl rfl ?_
              refine TrL.op (ok_move rfl (fun _ => rfl)) rfl rfl ?_
              refine TrL.fin ?_
              exact End.lp (k + 1) (by first | rfl | omega | (simp; done) | (simp; omega) | assumption) (by omega) (Ent.mk (.o rfl (by rw [sadL_in hkp, List.length_append]; rfl) rfl <| .i rfl (by first | rfl | omega | (simp; done) | (simp; omega) | assumption) <| .k rfl rfl <| .k rfl rfl <| .k rfl rfl <| .k rfl rfl <| .k rfl rfl <| .k rfl rfl <| .nil) (.a (by rw [sadL_in hkp, hnx]; rfl) (by rw [sadL_in hkp, List.length_append]; rfl) <| .k rfl <| .k rfl <| .nil) rfl)
        · intro h15
          replace h15 := Int.not_lt.1 (of_decide_eq_false h15)
          refine Tr.exit ?_
          refine Exs.thn ?_
          refine Exs.thn ?_
          refine Exs.here ?_
          exact End.cut (k) (by omega) (Ent.mk (.o rfl (by first | rfl | omega | (simp; done) | (simp; omega) | assumption) rfl <| .i rfl (by first | rfl | omega | (simp; done) | (simp; omega) | assumption) <| .k rfl rfl <| .k rfl rfl <| .k rfl rfl <| .k rfl rfl <| .k rfl rfl <| .k rfl rfl <| .nil) (.a (by first | rfl | omega | (simp; done) | (simp; omega) | assumption) (by first | rfl | omega | (simp; done) | (simp; omega) | assumption) <| .k rfl <| .k rfl <| .nil) rfl)
      · rintro _ rfl
        refine End.norm (S' := [⟨10, true, _, _⟩, ⟨48, true, _, _⟩, ⟨1, true, _, _⟩, ⟨5, true, _, _⟩, ⟨6, true, _, _⟩, ⟨7, true, _, _⟩, ⟨8, true, _, _⟩, ⟨47, true, _, _⟩]) (M' := [⟨10, _, _⟩, ⟨1, _, _⟩, ⟨28, _, _⟩]) rfl rfl ?_
        have hsl := sadL_len (o := o) (k := o.1.length)
        refine End.nxt ?_
        refine Tr.seq ?_
        refine Tr.rg ?_
        refine TrL.op (ok_move rfl (fun _ => rfl)) rfl rfl ?_
        refine TrL.op (ok_assign rfl (fun _ => rfl)) rfl rfl ?_
        refine TrL.op (ok_assign rfl (fun _ => rfl)) rfl rfl ?_
        refine TrL.fin ?_
        refine End.nxt ?_
        refine Tr.frz 10 [2] ⟨rfl, trivial⟩ (by simp only [lenMax]; omega) rfl ?_
        refine Tr.ret ?_
        exact Rts.res (fn := Try.f42) (ts := [2, 3]) rfl rfl (.r rfl (by rw [if_pos h2]) <| .i rfl h2.symm <| .nil)

set_option maxRecDepth 100000 in
set_option maxHeartbeats 1000000 in
theorem ct_rSaddles (o : Ori) (v : Valid o) : Ct Try.prog 43 [kRd eO o] (kRd (eL eSad) (sadL o o.1.length)) := by
  have hv0 := v.pos
  have hv1 := v.len
  have hv2 := v.le
  have hR := v.pR
  have hU := v.pU
  have hiL := invL_len o.2
  refine Ct.mk Try.func43 rfl Try.ntmps43 rfl (fun w J => ?_)
  refine Tr.seq ?_
  refine Tr.rg ?_
  refine TrL.new (ok_box 1 rfl (fun _ => rfl) rfl) rfl rfl rfl rfl ?_
  refine TrL.op (ok_assign rfl (fun _ => rfl)) rfl rfl ?_
  refine TrL.fin ?_
  refine End.nxt ?_
  refine Tr.seq ?_
  refine Tr.rg ?_
  refine TrL.op (ok_assign rfl (fun _ => rfl)) rfl rfl ?_
  refine TrL.fin ?_
  refine End.nxt ?_
  refine Tr.seq ?_
  refine Tr.seq ?_
  refine Tr.rg ?_
  refine TrL.op (ok_assign rfl (fun _ => rfl)) rfl rfl ?_
  refine TrL.fin ?_
  refine End.nxt ?_
  refine Tr.grow (s := 3) rfl rfl 3 rfl 3 eI rfl ?_
  refine Tr.for1 (σ := Nat) [⟨1, true, _, _⟩] [⟨1, _, _⟩] (fun k => [⟨3, true, [3], kOsl 3 (sqL o k).length⟩, ⟨4, true, [], kI (k : Int)⟩]) (fun k => [⟨3, [], cArr true 3 eI (sqL o k) (sqL o k).length⟩]) (fun k => k ≤ o.1.length) (fun k => k = o.1.length) (fun k => o.1.length - k) (0) (Nat.zero_le _) (Ent.mk (.o rfl (by first | rfl | omega | (simp; done) | (simp; omega) | assumption) rfl <| .i rfl (by first | rfl | omega | (simp; done) | (simp; omega) | assumption) <| .k rfl rfl <| .nil) (.a (by rfl) (by first | rfl | omega | (simp; done) | (simp; omega) | assumption) <| .k rfl <| .nil) rfl) ?_ ?_
  · intro k hR0
    refine Tr.norm (S' := [⟨3, true, _, _⟩, ⟨4, true, _, _⟩, ⟨1, true, _, _⟩]) (M' := [⟨3, _, _⟩, ⟨1, _, _⟩]) rfl rfl ?_
    have hsl := sqL_len (o := o) (k := k)
    refine Tr.seq ?_
    refine Tr.seq ?_
    refine Tr.rg ?_
    refine TrL.op (ok_move rfl (fun _ => rfl)) rfl rfl ?_
    refine TrL.op (ok_ldBS rfl (fun _ => rfl)) rfl rfl ?_
    refine TrL.op (ok_call (fun hp => ct_rSize _) (.s rfl (fun _ => rfl) rfl <| .nil)) rfl rfl ?_
    refine TrL.op (ok_lss rfl (fun _ => rfl) rfl (fun _ => rfl)) rfl rfl ?_
    refine TrL.fin ?_
    refine End.nxt ?_
    refine Tr.cnd rfl ?_ ?_
    · intro h3
      replace h3 := of_decide_eq_true h3
      have hks : Sq o.1.length (k : Int) := Sq.nat (by omega)
      refine Tr.skip ?_
      refine End.nxt ?_
      refine Tr.seq ?_
      refine Tr.blk ?_
      refine Tr.seq ?_
      refine Tr.rg ?_
      refine TrL.op (ok_ldBS rfl (fun _ => rfl)) rfl rfl ?_
      refine TrL.op (ok_move rfl (fun _ => rfl)) rfl rfl ?_
      refine TrL.op (ok_call (fun hp => ct_rOrder _ _ v hks) (.s rfl (fun _ => rfl) rfl <| .a rfl (fun _ => rfl) <| .nil)) rfl rfl ?_
      refine TrL.op (ok_gtr rfl (fun _ => rfl) rfl (fun _ => rfl)) rfl rfl ?_
      refine TrL.fin ?_
      refine End.nxt ?_
      refine Tr.cnd rfl ?_ ?_
      · intro h5
        replace h5 := of_decide_eq_true h5
        refine Tr.rg ?_
        refine TrL.op (ok_move rfl (fun _ => rfl)) rfl rfl ?_
        refine TrL.op (ok_move rfl (fun _ => rfl)) rfl rfl ?_
        refine TrL.new (ok_bsl eI 23 (fun hp => .cons rfl <| .nil) rfl rfl rfl rfl) rfl rfl rfl rfl ?_
        refine TrL.app rfl rfl rfl rfl rfl rfl rfl rfl (by first | omega | (simp only [List.length_cons, List.length_nil]; omega)) (by first | omega | (simp only [List.length_cons, List.length_nil]; omega)) ?_
        refine TrL.norm (S' := [⟨_, _, _, _⟩, ⟨_, _, _, _⟩, ⟨_, _, _, _⟩, ⟨_, _, _, _⟩, ⟨_, _, _, _⟩, ⟨_, _, _, _⟩, ⟨_, _, _, _⟩, ⟨_, _, _, _⟩, ⟨_, _, _, _⟩, ⟨_, _, _, _⟩, ⟨_, _, _, _⟩, ⟨_, _, _, _⟩, ⟨_, _, _, _⟩, ⟨_, _, _, _⟩, ⟨_, _, _, _⟩]) rfl rfl ?_
        refine TrL.op (ok_assign rfl (fun _ => rfl)) rfl rfl ?_
        refine TrL.fin ?_
        refine End.blk ?_
        refine End.nxt ?_
        refine Tr.rg ?_
        refine TrL.op (ok_move rfl (fun _ => rfl)) rfl rfl ?_
        refine TrL.op (ok_add rfl (fun _ => rfl) rfl (fun _ => rfl) (fun _ => by omega)) rfl rfl ?_
        refine TrL.op (ok_assign rfl (fun _ => rfl)) rfl rfl ?_
        refine TrL.fin ?_
        exact End.lp (k + 1) (by first | rfl | omega | (simp; done) | (simp; omega) | assumption) (by omega) (Ent.mk (.o rfl (by rw [sqL_in (by omega), List.length_append]) rfl <| .i rfl (by first | rfl | omega | (simp; done) | (simp; omega) | assumption) <| .k rfl rfl <| .nil) (.a (by rw [sqL_in (by omega)]) (by rw [sqL_in (by omega), List.length_append]) <| .k rfl <| .nil) rfl)
      · intro h5
        replace h5 := Int.not_lt.1 (of_decide_eq_false h5)
        refine Tr.skip ?_
        refine End.blk ?_
        refine End.nxt ?_
        refine Tr.rg ?_
        refine TrL.op (ok_move rfl (fun _ => rfl)) rfl rfl ?_
        refine TrL.op (ok_add rfl (fun _ => rfl) rfl (fun _ => rfl) (fun _ => by omega)) rfl rfl ?_
        refine TrL.op (ok_assign rfl (fun _ => rfl)) rfl rfl ?_
        refine TrL.fin ?_
        exact End.lp (k + 1) (by first | rfl | omega | (simp; done) | (simp; omega) | assumption) (by omega) (Ent.mk (.o rfl (by rw [sqL_out (by omega)]) rfl <| .i rfl (by first | rfl | omega | (simp; done) | (simp; omega) | assumption) <| .k rfl rfl <| .nil) (.a (by rw [sqL_out (by omega)]) (by rw [sqL_out (by omega)]) <| .k rfl <| .nil) rfl)
    · intro h3
      replace h3 := Int.not_lt.1 (of_decide_eq_false h3)
      refine Tr.exit ?_
      refine Exs.thn ?_
      refine Exs.thn ?_
      refine Exs.here ?_
      exact End.cut (k) (by omega) (Ent.mk (.o rfl (by first | rfl | omega | (simp; done) | (simp; omega) | assumption) rfl <| .i rfl (by first | rfl | omega | (simp; done) | (simp; omega) | assumption) <| .k rfl rfl <| .nil) (.a (by first | rfl | omega | (simp; done) | (simp; omega) | assumption) (by first | rfl | omega | (simp; done) | (simp; omega) | assumption) <| .k rfl <| .nil) rfl)
  · rintro _ rfl
    refine End.norm (S' := [⟨3, true, _, _⟩, ⟨4, true, _, _⟩, ⟨1, true, _, _⟩]) (M' := [⟨3, _, _⟩, ⟨1, _, _⟩]) rfl rfl ?_
    have hsl := sqL_len (o := o) (k := o.1.length)
    refine End.nxt ?_
    refine Tr.seq ?_
    refine Tr.rg ?_
    refine TrL.op (ok_fldO rfl (fun _ => rfl)) rfl rfl ?_
    refine TrL.op (ok_ldB rfl (fun _ => rfl) rfl) rfl rfl ?_
    refine TrL.op (ok_call (fun hp => ct_rInv2 _ v.pU (by omega)) (.a rfl (fun _ => rfl) <| .nil)) rfl rfl ?_
    refine TrL.op (ok_assign rfl (fun _ => rfl)) rfl rfl ?_
    refine TrL.fin ?_
    refine End.nxt ?_
    refine Tr.seq ?_
    refine Tr.rg ?_
    refine TrL.op (ok_assign rfl (fun _ => rfl)) rfl rfl ?_
    refine TrL.frz 3 [3] ⟨rfl, trivial⟩ (by simp only [lenMax]; omega) rfl ?_
    refine TrL.norm (S' := [⟨_, _, _, _⟩, ⟨_, _, _, _⟩, ⟨_, _, _, _⟩, ⟨_, _, _, _⟩, ⟨_, _, _, _⟩, ⟨_, _, _, _⟩, ⟨_, _, _, _⟩, ⟨_, _, _, _⟩, ⟨_, _, _, _⟩]) rfl rfl ?_
    refine TrL.fin ?_
    refine End.nxt ?_
    refine Tr.seq ?_
    refine Tr.seq ?_
    refine Tr.rg ?_
    refine TrL.op (ok_assign rfl (fun _ => rfl)) rfl rfl ?_
    refine TrL.fin ?_
    refine End.nxt ?_
    refine Tr.grow (s := 6) rfl rfl 6 rfl 62 eSad rfl ?_
    refine Tr.for1 (σ := Nat) [⟨1, true, _, _⟩, ⟨3, true, _, _⟩, ⟨5, true, _, _⟩] [⟨1, _, _⟩] (fun i => [⟨7, true, [], kI (i : Int)⟩, ⟨6, true, [6], kOsl 6 i⟩]) (fun i => [⟨6, [], cArr true 62 eSad (sadT o i) i⟩]) (fun i => i ≤ (sqL o o.1.length).length) (fun i => i = (sqL o o.1.length).length) (fun i => (sqL o o.1.length).length - i) (0) (Nat.zero_le _) (Ent.mk (.i rfl (by first | rfl | omega | (simp; done) | (simp; omega) | assumption) <| .o rfl (by first | rfl | omega | (simp; done) | (simp; omega) | assumption) rfl <| .k rfl rfl <| .k rfl rfl <| .k rfl rfl <| .nil) (.a (by rfl) (by first | rfl | omega | (simp; done) | (simp; omega) | assumption) <| .k rfl <| .nil) rfl) ?_ ?_
    · intro i hR1
      refine Tr.norm (S' := [⟨7, true, _, _⟩, ⟨6, true, _, _⟩, ⟨1, true, _, _⟩, ⟨3, true, _, _⟩, ⟨5, true, _, _⟩]) (M' := [⟨6, _, _⟩, ⟨1, _, _⟩]) rfl rfl ?_
      refine Tr.seq ?_
      refine Tr.seq ?_
      refine Tr.rg ?_
      refine TrL.op (ok_move rfl (fun _ => rfl)) rfl rfl ?_
      refine TrL.op (ok_move rfl (fun _ => rfl)) rfl rfl ?_
      refine TrL.op (ok_lenJ rfl (fun _ => rfl)) rfl rfl ?_
      refine TrL.op (ok_lss rfl (fun _ => rfl) rfl (fun _ => rfl)) rfl rfl ?_
      refine TrL.fin ?_
      refine End.nxt ?_
      refine Tr.cnd rfl ?_ ?_
      · intro h10
        replace h10 := of_decide_eq_true h10
        obtain ⟨hxs, hxp⟩ := mem_sqL.1 (nth_mem (xs := (sqL o o.1.length)) (i := i) (by omega))
        have hx0 := hxs.1
        have hx1 := hxs.2
        obtain ⟨hs1, hs2, hs3, hs4⟩ := sadN_spec v hxs hxp
        have hsb : nth o.2 (it o.1 (sadN o (nth (sqL o o.1.length) i)) (ap (invL o.2) (nth (sqL o o.1.length) i))).toNat = ap o.2 (ap o.1 (ap (invL o.2) (it o.1 (sadN o (nth (sqL o o.1.length) i) - 1) (nth (sqL o o.1.length) i)))) := sad_below v hxs hxp
        have hd : 0 ≤ nth (invL o.2) (nth (sqL o o.1.length) i).toNat ∧ nth (invL o.2) (nth (sqL o o.1.length) i).toNat < o.1.length := hU.inv.aps hxs
        refine Tr.skip ?_
        refine End.nxt ?_
        refine Tr.seq ?_
        refine Tr.blk ?_
        refine Tr.seq ?_
        refine Tr.draw 12 mixed (by kernel_rfl) ?_
        refine RunD.op (ok_move rfl (fun _ => rfl)) rfl rfl ?_
        refine RunD.op (ok_move rfl (fun _ => rfl)) rfl rfl ?_
        first | refine RunD.op (ok_idxN rfl (fun _ => rfl) rfl (fun _ => rfl) rfl (fun _ => by omega)) rfl rfl ?_ | refine RunD.op (ok_idxP rfl (fun _ => rfl) rfl (fun _ => rfl) rfl (fun _ => by omega)) rfl rfl ?_
        refine RunD.op (ok_ldP rfl (fun _ => rfl) rfl) rfl rfl ?_
        refine RunD.op (ok_ldBS rfl (fun _ => rfl)) rfl rfl ?_
        refine RunD.op (ok_move rfl (fun _ => rfl)) rfl rfl ?_
        refine RunD.op (ok_move rfl (fun _ => rfl)) rfl rfl ?_
        first | refine RunD.op (ok_idxN rfl (fun _ => rfl) rfl (fun _ => rfl) rfl (fun _ => by omega)) rfl rfl ?_ | refine RunD.op (ok_idxP rfl (fun _ => rfl) rfl (fun _ => rfl) rfl (fun _ => by omega)) rfl rfl ?_
        refine RunD.op (ok_ldP rfl (fun _ => rfl) rfl) rfl rfl ?_
        refine RunD.op (ok_call (fun hp => ct_rVertexOf _ _ v hxs) (.s rfl (fun _ => rfl) rfl <| .a rfl (fun _ => rfl) <| .nil)) rfl rfl ?_
        refine RunD.op (ok_build (fun hp => .cons rfl rfl rfl <| .cons rfl rfl rfl <| .nil)) rfl rfl ?_
        refine RunD.new (ok_alloc 8) rfl rfl rfl rfl ?_
        refine RunD.z ?_
        refine TrL.stB rfl rfl rfl rfl ?_
        refine TrL.fin ?_
        refine End.nxt ?_
        refine Tr.seq ?_
        refine Tr.draw 12 mixed (by kernel_rfl) ?_
        refine RunD.op (ok_move rfl (fun _ => rfl)) rfl rfl ?_
        refine RunD.op (ok_move rfl (fun _ => rfl)) rfl rfl ?_
        first | refine RunD.op (ok_idxN rfl (fun _ => rfl) rfl (fun _ => rfl) rfl (fun _ => by omega)) rfl rfl ?_ | refine RunD.op (ok_idxP rfl (fun _ => rfl) rfl (fun _ => rfl) rfl (fun _ => by omega)) rfl rfl ?_
        refine RunD.op (ok_ldP rfl (fun _ => rfl) rfl) rfl rfl ?_
        refine RunD.op (ok_move rfl (fun _ => rfl)) rfl rfl ?_
        refine RunD.op (ok_move rfl (fun _ => rfl)) rfl rfl ?_
        refine RunD.op (ok_move rfl (fun _ => rfl)) rfl rfl ?_
        first | refine RunD.op (ok_idxN rfl (fun _ => rfl) rfl (fun _ => rfl) rfl (fun _ => by omega)) rfl rfl ?_ | refine RunD.op (ok_idxP rfl (fun _ => rfl) rfl (fun _ => rfl) rfl (fun _ => by omega)) rfl rfl ?_
        refine RunD.op (ok_ldP rfl (fun _ => rfl) rfl) rfl rfl ?_
        first | refine RunD.op (ok_idxN rfl (fun _ => rfl) rfl (fun _ => rfl) rfl (fun _ => by omega)) rfl rfl ?_ | refine RunD.op (ok_idxP rfl (fun _ => rfl) rfl (fun _ => rfl) rfl (fun _ => by omega)) rfl rfl ?_
        refine RunD.op (ok_ldP rfl (fun _ => rfl) rfl) rfl rfl ?_
        refine RunD.op (ok_assign rfl (fun _ => rfl)) rfl rfl ?_
        refine RunD.z ?_
        refine TrL.op (ok_assign rfl (fun _ => rfl)) rfl rfl ?_
        refine TrL.fin ?_
        refine End.nxt ?_
        refine Tr.for (σ := Nat) [⟨1, true, _, _⟩, ⟨3, true, _, _⟩, ⟨5, true, _, _⟩, ⟨6, true, _, _⟩, ⟨7, true, _, _⟩, ⟨8, true, _, _⟩] [⟨1, _, _⟩, ⟨6, _, _⟩] (fun m => [⟨9, true, [], kI (it o.1 m (nth (sqL o o.1.length) i))⟩, ⟨10, true, [], kI (it o.1 m (ap (invL o.2) (nth (sqL o o.1.length) i)))⟩]) (fun m => [⟨8, [], cBlk [kI (nth (sqL o o.1.length) i), kI (m : Int), kI (nth (vertL o) (nth (sqL o o.1.length) i).toNat), kI 0, kI 0, kI 0]⟩]) (fun m => m ≤ sadN o (nth (sqL o o.1.length) i)) (fun m => m = sadN o (nth (sqL o o.1.length) i)) (fun m => sadN o (nth (sqL o o.1.length) i) - m) (0) (Nat.zero_le _) (Ent.mk (.i rfl (by rfl) <| .i rfl (by rfl) <| .k rfl rfl <| .k rfl rfl <| .k rfl rfl <| .k rfl rfl <| .k rfl rfl <| .k rfl rfl <| .nil) (.e (by rfl) rfl <| .k rfl <| .k rfl <| .nil) rfl) ?_ ?_
        · intro m hml
          refine Tr.norm (S' := [⟨9, true, _, _⟩, ⟨10, true, _, _⟩, ⟨1, true, _, _⟩, ⟨3, true, _, _⟩, ⟨5, true, _, _⟩, ⟨6, true, _, _⟩, ⟨7, true, _, _⟩, ⟨8, true, _, _⟩]) (M' := [⟨8, _, _⟩, ⟨1, _, _⟩, ⟨6, _, _⟩]) rfl rfl ?_
          have hqm := hR.its hxs m
          have hq0 := hqm.1
          have hq1 := hqm.2
          have hbm := hR.its (hU.inv.aps hxs) m
          have hb0 := hbm.1
          have hb1 := hbm.2
          refine Tr.seq ?_
          refine Tr.seq ?_
          refine Tr.rg ?_
          refine TrL.op (ok_fldO rfl (fun _ => rfl)) rfl rfl ?_
          refine TrL.op (ok_ldB rfl (fun _ => rfl) rfl) rfl rfl ?_
          refine TrL.op (ok_eql rfl (fun _ => rfl) rfl (fun _ => rfl)) rfl rfl ?_
          refine TrL.op (ok_move rfl (fun _ => rfl)) rfl rfl ?_
          refine TrL.gd rfl rfl rfl (ok_ldBS rfl (fun _ => rfl)) rfl rfl ?_
          refine TrL.gd rfl rfl rfl (ok_move rfl (fun _ => rfl)) rfl rfl ?_
          refine TrL.gd rfl rfl rfl (ok_call (fun hp => ct_rOrder _ _ v hqm) (.s rfl id rfl <| .a rfl id <| .nil)) rfl rfl ?_
          refine TrL.gd rfl rfl rfl (ok_eql rfl id rfl (fun _ => rfl)) rfl rfl ?_
          refine TrL.op (ok_or rfl (fun _ => rfl) rfl (fun hp h => gdF2 ((fun _ => rfl) hp) h)) rfl rfl ?_
          refine TrL.fin ?_
          refine End.nxt ?_
          refine Tr.cnd rfl ?_ ?_
          · intro h14
            have hone : m + 1 ≤ sadN o (nth (sqL o o.1.length) i) := (by rcases Nat.eq_zero_or_pos m with h | h; omega; exact (sadN_at v hxs hxp h hml).1 (by simp at h14; omega))
            refine Tr.skip ?_
            refine End.nxt ?_
            refine Tr.blk ?_
            refine Tr.seq ?_
            refine Tr.draw 11 mixed (by kernel_rfl) ?_
            refine RunD.op (ok_fldO rfl (fun _ => rfl)) rfl rfl ?_
            refine RunD.op (ok_ldB rfl (fun _ => rfl) rfl) rfl rfl ?_
            refine RunD.op (ok_move rfl (fun _ => rfl)) rfl rfl ?_
            first | refine RunD.op (ok_idxN rfl (fun _ => rfl) rfl (fun _ => rfl) rfl (fun _ => by omega)) rfl rfl ?_ | refine RunD.op (ok_idxP rfl (fun _ => rfl) rfl (fun _ => rfl) rfl (fun _ => by omega)) rfl rfl ?_
            refine RunD.op (ok_ldP rfl (fun _ => rfl) rfl) rfl rfl ?_
            refine RunD.op (ok_fldO rfl (fun _ => rfl)) rfl rfl ?_
            refine RunD.op (ok_ldB rfl (fun _ => rfl) rfl) rfl rfl ?_
            refine RunD.op (ok_move rfl (fun _ => rfl)) rfl rfl ?_
            first | refine RunD.op (ok_idxN rfl (fun _ => rfl) rfl (fun _ => rfl) rfl (fun _ => by omega)) rfl rfl ?_ | refine RunD.op (ok_idxP rfl (fun _ => rfl) rfl (fun _ => rfl) rfl (fun _ => by omega)) rfl rfl ?_
            refine RunD.op (ok_ldP rfl (fun _ => rfl) rfl) rfl rfl ?_
            refine RunD.op (ok_assign rfl (fun _ => rfl)) rfl rfl ?_
            refine RunD.z ?_
            refine TrL.op (ok_assign rfl (fun _ => rfl)) rfl rfl ?_
            refine TrL.fin ?_
            refine End.nxt ?_
            refine Tr.rg ?_
            refine TrL.op (ok_fldO rfl (fun _ => rfl)) rfl rfl ?_
            refine TrL.op (ok_ldB rfl (fun _ => rfl) rfl) rfl rfl ?_
            refine TrL.op (ok_add rfl (fun _ => rfl) rfl (fun _ => rfl) (fun _ => by omega)) rfl rfl ?_
            refine TrL.op (ok_fldO rfl (fun _ => rfl)) rfl rfl ?_
            refine TrL.stB rfl rfl rfl rfl ?_
            refine TrL.fin ?_
            refine End.blk ?_
            exact End.lp (m + 1) hone (by omega) (Ent.mk (.i rfl (by rfl) <| .i rfl (by rfl) <| .k rfl rfl <| .k rfl rfl <| .k rfl rfl <| .k rfl rfl <| .k rfl rfl <| .k rfl rfl <| .nil) (.e (by rfl) rfl <| .k rfl <| .k rfl <| .nil) rfl)
          · intro h14
            simp at h14
            have hone : m = sadN o (nth (sqL o o.1.length) i) := (sadN_at v hxs hxp (by omega) hml).2 (by omega)
            refine Tr.exit ?_
            refine Exs.thn ?_
            refine Exs.thn ?_
            refine Exs.here ?_
            exact End.cut (m) hone (Ent.mk (.i rfl (by first | rfl | omega | (simp; done) | (simp; omega) | assumption) <| .i rfl (by first | rfl | omega | (simp; done) | (simp; omega) | assumption) <| .k rfl rfl <| .k rfl rfl <| .k rfl rfl <| .k rfl rfl <| .k rfl rfl <| .k rfl rfl <| .nil) (.k rfl <| .k rfl <| .k rfl <| .nil) rfl)
        · rintro _ rfl
          refine Tr.norm (S' := [⟨9, true, _, _⟩, ⟨10, true, _, _⟩, ⟨1, true, _, _⟩, ⟨3, true, _, _⟩, ⟨5, true, _, _⟩, ⟨6, true, _, _⟩, ⟨7, true, _, _⟩, ⟨8, true, _, _⟩]) (M' := [⟨8, _, _⟩, ⟨1, _, _⟩, ⟨6, _, _⟩]) rfl rfl ?_
          have hqm := hR.its hxs (sadN o (nth (sqL o o.1.length) i))
          have hbm := hR.its (hU.inv.aps hxs) (sadN o (nth (sqL o o.1.length) i))
          have hb0 := hbm.1
          have hb1 := hbm.2
          refine Tr.seq ?_
          refine Tr.rg ?_
          refine TrL.op (ok_ldBS rfl (fun _ => rfl)) rfl rfl ?_
          refine TrL.op (ok_move rfl (fun _ => rfl)) rfl rfl ?_
          refine TrL.op (ok_call (fun hp => ct_rVertexOf _ _ v hqm) (.s rfl (fun _ => rfl) rfl <| .a rfl (fun _ => rfl) <| .nil)) rfl rfl ?_
          refine TrL.op (ok_fldO rfl (fun _ => rfl)) rfl rfl ?_
          refine TrL.stB rfl rfl rfl rfl ?_
          refine TrL.fin ?_
          refine End.nxt ?_
          refine Tr.seq ?_
          refine Tr.draw 11 mixed (by kernel_rfl) ?_
          refine RunD.op (ok_move rfl (fun _ => rfl)) rfl rfl ?_
          refine RunD.op (ok_move rfl (fun _ => rfl)) rfl rfl ?_
          refine RunD.op (ok_call (fun hp => ct_rAt _ _) (.a rfl (fun _ => rfl) <| .a rfl (fun _ => rfl) <| .nil)) rfl rfl ?_
          refine RunD.op (ok_move rfl (fun _ => rfl)) rfl rfl ?_
          refine RunD.op (ok_fldO rfl (fun _ => rfl)) rfl rfl ?_
          refine RunD.op (ok_ldB rfl (fun _ => rfl) rfl) rfl rfl ?_
          refine RunD.op (ok_move rfl (fun _ => rfl)) rfl rfl ?_
          first | refine RunD.op (ok_idxN rfl (fun _ => rfl) rfl (fun _ => rfl) rfl (fun _ => by omega)) rfl rfl ?_ | refine RunD.op (ok_idxP rfl (fun _ => rfl) rfl (fun _ => rfl) rfl (fun _ => by omega)) rfl rfl ?_
          refine RunD.op (ok_ldP rfl (fun _ => rfl) rfl) rfl rfl ?_
          refine RunD.op (ok_call (fun hp => ct_rAt _ _) (.a rfl (fun _ => rfl) <| .a rfl (fun _ => rfl) <| .nil)) rfl rfl ?_
          refine RunD.op (ok_fldO rfl (fun _ => rfl)) rfl rfl ?_
          refine RunD.z ?_
          refine TrL.stB rfl rfl rfl rfl ?_
          refine TrL.op (ok_fldO rfl (fun _ => rfl)) rfl rfl ?_
          refine TrL.stB rfl rfl rfl rfl ?_
          refine TrL.fin ?_
          refine End.nxt ?_
          refine Tr.rg ?_
          refine TrL.op (ok_move rfl (fun _ => rfl)) rfl rfl ?_
          refine TrL.op (ok_ldBS rfl (fun _ => rfl)) rfl rfl ?_
          refine TrL.new (ok_bsl eSad 97 (fun hp => .cons rfl <| .nil) rfl rfl rfl rfl) rfl rfl rfl rfl ?_
          refine TrL.app rfl rfl rfl rfl rfl rfl rfl rfl (by first | omega | (simp only [List.length_cons, List.length_nil]; omega)) (by first | omega | (simp only [List.length_cons, List.length_nil]; omega)) ?_
          refine TrL.norm (S' := [⟨_, _, _, _⟩, ⟨_, _, _, _⟩, ⟨_, _, _, _⟩, ⟨_, _, _, _⟩, ⟨_, _, _, _⟩, ⟨_, _, _, _⟩, ⟨_, _, _, _⟩, ⟨_, _, _, _⟩, ⟨_, _, _, _⟩, ⟨_, _, _, _⟩, ⟨_, _, _, _⟩, ⟨_, _, _, _⟩, ⟨_, _, _, _⟩, ⟨_, _, _, _⟩, ⟨_, _, _, _⟩, ⟨_, _, _, _⟩, ⟨_, _, _, _⟩, ⟨_, _, _, _⟩, ⟨_, _, _, _⟩, ⟨_, _, _, _⟩, ⟨_, _, _, _⟩, ⟨_, _, _, _⟩, ⟨_, _, _, _⟩, ⟨_, _, _, _⟩, ⟨_, _, _, _⟩, ⟨_, _, _, _⟩, ⟨_, _, _, _⟩, ⟨_, _, _, _⟩]) rfl rfl ?_
          refine TrL.op (ok_assign rfl (fun _ => rfl)) rfl rfl ?_
          refine TrL.fin ?_
          refine End.blk ?_
          refine End.nxt ?_
          refine Tr.rg ?_
          refine TrL.op (ok_move rfl (fun _ => rfl)) rfl rfl ?_
          refine TrL.op (ok_add rfl (fun _ => rfl) rfl (fun _ => rfl) (fun _ => by omega)) rfl rfl ?_
          refine TrL.op (ok_assign rfl (fun _ => rfl)) rfl rfl ?_
          refine TrL.fin ?_
          exact End.lp (i + 1) (by first | rfl | omega | (simp; done) | (simp; omega) | assumption) (by omega) (Ent.mk (.i rfl (by first | rfl | omega | (simp; done) | (simp; omega) | assumption) <| .o rfl (by first | rfl | omega | (simp; done) | (simp; omega) | assumption) rfl <| .k rfl rfl <| .k rfl rfl <| .k rfl rfl <| .nil) (.a (by rw [sadT_succ (by omega), hsb]; rfl) (by first | rfl | omega | (simp; done) | (simp; omega) | assumption) <| .k rfl <| .nil) rfl)
      · intro h10
        replace h10 := Int.not_lt.1 (of_decide_eq_false h10)
        refine Tr.exit ?_
        refine Exs.thn ?_
        refine Exs.thn ?_
        refine Exs.here ?_
        exact End.cut (i) (by omega) (Ent.mk (.i rfl (by first | rfl | omega | (simp; done) | (simp; omega) | assumption) <| .o rfl (by first | rfl | omega | (simp; done) | (simp; omega) | assumption) rfl <| .k rfl rfl <| .k rfl rfl <| .k rfl rfl <| .nil) (.a (by first | rfl | omega | (simp; done) | (simp; omega) | assumption) (by first | rfl | omega | (simp; done) | (simp; omega) | assumption) <| .k rfl <| .nil) rfl)
    · rintro _ rfl
      refine End.norm (S' := [⟨7, true, _, _⟩, ⟨6, true, _, _⟩, ⟨1, true, _, _⟩, ⟨3, true, _, _⟩, ⟨5, true, _, _⟩]) (M' := [⟨6, _, _⟩, ⟨1, _, _⟩]) rfl rfl ?_
      refine End.nxt ?_
      refine Tr.seq ?_
      refine Tr.rg ?_
      refine TrL.op (ok_move rfl (fun _ => rfl)) rfl rfl ?_
      refine TrL.op (ok_assign rfl (fun _ => rfl)) rfl rfl ?_
      refine TrL.fin ?_
      refine End.nxt ?_
      refine Tr.frz 6 [2] ⟨rfl, trivial⟩ (by simp only [lenMax]; omega) rfl ?_
      refine Tr.ret ?_
      exact Rts.res1 (fn := Try.f43) rfl (.r rfl sadT_all <| .nil)

set_option maxRecDepth 100000 in
theorem ct_OrigamiSaddles (o : Ori) : Ct Try.prog 7 [kRd eO o] (kB true) := by
  refine Ct.mk Try.func7 rfl Try.ntmps7 rfl (fun w J => ?_)
  refine Tr.seq ?_
  refine Tr.rg ?_
  refine TrL.new (ok_box 1 rfl (fun _ => rfl) rfl) rfl rfl rfl rfl ?_
  refine TrL.op (ok_assign rfl (fun _ => rfl)) rfl rfl ?_
  refine TrL.fin ?_
  refine End.nxt ?_
  refine Tr.seq ?_
  refine Tr.seq ?_
  refine Tr.rg ?_
  refine TrL.op (ok_call (fun hp => ct_awake) (.nil)) rfl rfl ?_
  refine TrL.op (ok_not rfl (fun _ => rfl)) rfl rfl ?_
  refine TrL.fin ?_
  refine End.nxt ?_
  refine Tr.cnd rfl ?_ ?_
  · intro h1
    simp at h1
  · intro h1
    refine Tr.skip ?_
    refine End.nxt ?_
    refine Tr.seq ?_
    refine Tr.seq ?_
    refine Tr.rg ?_
    refine TrL.op (ok_ldBS rfl (fun _ => rfl)) rfl rfl ?_
    refine TrL.op (ok_call (fun hp => ct_Few _) (.s rfl (fun _ => rfl) rfl <| .nil)) rfl rfl ?_
    refine TrL.op (ok_not rfl (fun _ => rfl)) rfl rfl ?_
    refine TrL.fin ?_
    refine End.nxt ?_
    refine Tr.cnd rfl ?_ ?_
    · intro h3
      try simp only [decide_eq_false_iff_not, Bool.not_eq_true'] at h3
      refine Tr.seq ?_
      refine Tr.rg ?_
      refine TrL.op (ok_assign rfl (fun _ => rfl)) rfl rfl ?_
      refine TrL.fin ?_
      refine End.nxt ?_
      refine Tr.ret ?_
      refine Rts.thn ?_
      exact Rts.res1 (fn := Try.f7) rfl (.b rfl (by rfl) <| .nil)
    · intro h3
      try simp only [decide_eq_true_eq, Bool.not_eq_false'] at h3
      refine Tr.skip ?_
      refine End.nxt ?_
      refine Tr.seq ?_
      refine Tr.rg ?_
      refine TrL.op (ok_ldBS rfl (fun _ => rfl)) rfl rfl ?_
      refine TrL.op (ok_call (fun hp => ct_oSaddles _) (.s rfl (fun _ => rfl) rfl <| .nil)) rfl rfl ?_
      refine TrL.op (ok_move rfl (fun _ => rfl)) rfl rfl ?_
      refine TrL.op (ok_ext rfl (fun _ => rfl) rfl) rfl rfl ?_
      refine TrL.op (ok_ext rfl (fun _ => rfl) rfl) rfl rfl ?_
      refine TrL.op (ok_assign rfl (fun _ => rfl)) rfl rfl ?_
      refine TrL.op (ok_assign rfl (fun _ => rfl)) rfl rfl ?_
      refine TrL.fin ?_
      refine End.nxt ?_
      refine Tr.seq ?_
      refine Tr.seq ?_
      refine Tr.rg ?_
      refine TrL.op (ok_ldBS rfl (fun _ => rfl)) rfl rfl ?_
      refine TrL.op (ok_call (fun hp => ct_rCheck _) (.s rfl (fun _ => rfl) rfl <| .nil)) rfl rfl ?_
      refine TrL.op (ok_assign rfl (fun _ => rfl)) rfl rfl ?_
      refine TrL.fin ?_
      refine End.nxt ?_
      refine Tr.seq ?_
      refine Tr.rg ?_
      refine TrL.op (ok_move rfl (fun _ => rfl)) rfl rfl ?_
      refine TrL.op (ok_neq rfl (fun _ => rfl) rfl (fun _ => rfl)) rfl rfl ?_
      refine TrL.fin ?_
      refine End.nxt ?_
      refine Tr.cnd rfl ?_ ?_
      · intro h7
        replace h7 := of_decide_eq_true h7
        refine Tr.seq ?_
        refine Tr.rg ?_
        refine TrL.op (ok_move rfl (fun _ => rfl)) rfl rfl ?_
        refine TrL.op (ok_move rfl (fun _ => rfl)) rfl rfl ?_
        refine TrL.op (ok_eql rfl (fun _ => rfl) rfl (fun _ => rfl)) rfl rfl ?_
        refine TrL.op (ok_move rfl (fun _ => rfl)) rfl rfl ?_
        refine TrL.gd rfl rfl rfl (ok_move rfl (fun _ => rfl)) rfl rfl ?_
        refine TrL.gd rfl rfl rfl (ok_lenJ rfl id) rfl rfl ?_
        refine TrL.gd rfl rfl rfl (ok_eql rfl id rfl (fun _ => rfl)) rfl rfl ?_
        refine TrL.op (ok_and rfl (fun _ => rfl) rfl (fun hp h => gdT2 ((fun _ => rfl) hp) h)) rfl rfl ?_
        refine TrL.op (ok_assign rfl (fun _ => rfl)) rfl rfl ?_
        refine TrL.fin ?_
        refine End.nxt ?_
        refine Tr.ret ?_
        refine Rts.thn ?_
        exact Rts.res1 (fn := Try.f7) rfl (.b rfl (by simp [h7]) <| .nil)
      · intro h7
        replace h7 := Classical.not_not.1 (of_decide_eq_false h7)
        have v : Valid o := valid_of h7
        have hsl := sadL_len (o := o) (k := o.1.length)
        have hv2 := v.le
        refine Tr.skip ?_
        refine End.nxt ?_
        refine Tr.seq ?_
        refine Tr.rg ?_
        refine TrL.op (ok_ldBS rfl (fun _ => rfl)) rfl rfl ?_
        refine TrL.op (ok_call (fun hp => ct_rSaddles _ v) (.s rfl (fun _ => rfl) rfl <| .nil)) rfl rfl ?_
        refine TrL.op (ok_assign rfl (fun _ => rfl)) rfl rfl ?_
        refine TrL.fin ?_
        refine End.nxt ?_
        refine Tr.seq ?_
        refine Tr.seq ?_
        refine Tr.rg ?_
        refine TrL.op (ok_move rfl (fun _ => rfl)) rfl rfl ?_
        refine TrL.op (ok_neq rfl (fun _ => rfl) rfl (fun _ => rfl)) rfl rfl ?_
        refine TrL.op (ok_move rfl (fun _ => rfl)) rfl rfl ?_
        refine TrL.gd rfl rfl rfl (ok_move rfl (fun _ => rfl)) rfl rfl ?_
        refine TrL.gd rfl rfl rfl (ok_lenJ rfl id) rfl rfl ?_
        refine TrL.gd rfl rfl rfl (ok_move rfl (fun _ => rfl)) rfl rfl ?_
        refine TrL.gd rfl rfl rfl (ok_lenJ rfl id) rfl rfl ?_
        refine TrL.gd rfl rfl rfl (ok_neq rfl id rfl id) rfl rfl ?_
        refine TrL.op (ok_or rfl (fun _ => rfl) rfl (fun hp h => gdF2 ((fun _ => rfl) hp) h)) rfl rfl ?_
        refine TrL.fin ?_
        refine End.nxt ?_
        refine Tr.cnd rfl ?_ ?_
        · intro h10
          simp [h7] at h10
        · intro h10
          rw [if_pos h7] at *
          refine Tr.skip ?_
          refine End.nxt ?_
          refine Tr.seq ?_
          refine Tr.seq ?_
          refine Tr.rg ?_
          refine TrL.op (ok_assign rfl (fun _ => rfl)) rfl rfl ?_
          refine TrL.fin ?_
          refine End.nxt ?_
          refine Tr.for1 (σ := Nat) [⟨3, true, _, _⟩, ⟨6, true, _, _⟩] [] (fun k => [⟨7, true, [], kI (k : Int)⟩]) (fun k => []) (fun k => k ≤ (sadL o o.1.length).length) (fun k => k = (sadL o o.1.length).length) (fun k => (sadL o o.1.length).length - k) (0) (Nat.zero_le _) (Ent.mk (.i rfl (by first | rfl | omega | (simp; done) | (simp; omega) | assumption) <| .k rfl rfl <| .k rfl rfl <| .nil) (.nil) rfl) ?_ ?_
          · intro k hR0
            refine Tr.norm (S' := [⟨7, true, _, _⟩, ⟨3, true, _, _⟩, ⟨6, true, _, _⟩]) (M' := []) rfl rfl ?_
            refine Tr.seq ?_
            refine Tr.seq ?_
            refine Tr.rg ?_
            refine TrL.op (ok_move rfl (fun _ => rfl)) rfl rfl ?_
            refine TrL.op (ok_move rfl (fun _ => rfl)) rfl rfl ?_
            refine TrL.op (ok_lenJ rfl (fun _ => rfl)) rfl rfl ?_
            refine TrL.op (ok_lss rfl (fun _ => rfl) rfl (fun _ => rfl)) rfl rfl ?_
            refine TrL.fin ?_
            refine End.nxt ?_
            refine Tr.cnd rfl ?_ ?_
            · intro h13
              replace h13 := of_decide_eq_true h13
              refine Tr.skip ?_
              refine End.nxt ?_
              refine Tr.seq ?_
              refine Tr.blk ?_
              refine Tr.seq ?_
              refine Tr.draw 8 mixed (by kernel_rfl) ?_
              refine RunD.op (ok_move rfl (fun _ => rfl)) rfl rfl ?_
              refine RunD.op (ok_move rfl (fun _ => rfl)) rfl rfl ?_
              first | refine RunD.op (ok_idxN rfl (fun _ => rfl) rfl (fun _ => rfl) rfl (fun _ => by omega)) rfl rfl ?_ | refine RunD.op (ok_idxP rfl (fun _ => rfl) rfl (fun _ => rfl) rfl (fun _ => by omega)) rfl rfl ?_
              refine RunD.op (ok_ldPA rfl (fun _ => rfl) rfl rfl) rfl rfl ?_
              refine RunD.op (ok_move rfl (fun _ => rfl)) rfl rfl ?_
              refine RunD.op (ok_move rfl (fun _ => rfl)) rfl rfl ?_
              first | refine RunD.op (ok_idxN rfl (fun _ => rfl) rfl (fun _ => rfl) rfl (fun _ => by omega)) rfl rfl ?_ | refine RunD.op (ok_idxP rfl (fun _ => rfl) rfl (fun _ => rfl) rfl (fun _ => by omega)) rfl rfl ?_
              refine RunD.op (ok_ldPA rfl (fun _ => rfl) rfl rfl) rfl rfl ?_
              refine RunD.z ?_
              refine TrL.op (ok_neqSame (k := 6) rfl (fun _ => rfl) rfl (fun _ => rfl) rfl [(nth (sadL o o.1.length) k).1, (nth (sadL o o.1.length) k).2.1, (nth (sadL o o.1.length) k).2.2.1, (nth (sadL o o.1.length) k).2.2.2.1, (nth (sadL o o.1.length) k).2.2.2.2.1, (nth (sadL o o.1.length) k).2.2.2.2.2] rfl (fun _ _ h => sad_cells h)) rfl rfl ?_
              refine TrL.fin ?_
              refine End.nxt ?_
              refine Tr.cnd rfl ?_ ?_
              · intro h15
                simp at h15
              · intro h15
                refine Tr.skip ?_
                refine End.blk ?_
                refine End.nxt ?_
                refine Tr.rg ?_
                refine TrL.op (ok_move rfl (fun _ => rfl)) rfl rfl ?_
                refine TrL.op (ok_add rfl (fun _ => rfl) rfl (fun _ => rfl) (fun _ => by omega)) rfl rfl ?_
                refine TrL.op (ok_assign rfl (fun _ => rfl)) rfl rfl ?_
                refine TrL.fin ?_
                exact End.lp (k + 1) (by first | rfl | omega | (simp; done) | (simp; omega) | assumption) (by omega) (Ent.mk (.i rfl (by first | rfl | omega | (simp; done) | (simp; omega) | assumption) <| .k rfl rfl <| .k rfl rfl <| .nil) (.nil) rfl)
            · intro h13
              replace h13 := Int.not_lt.1 (of_decide_eq_false h13)
              refine Tr.exit ?_
              refine Exs.thn ?_
              refine Exs.thn ?_
              refine Exs.here ?_
              exact End.cut (k) (by omega) (Ent.mk (.i rfl (by first | rfl | omega | (simp; done) | (simp; omega) | assumption) <| .k rfl rfl <| .k rfl rfl <| .nil) (.nil) rfl)
          · rintro _ rfl
            refine End.norm (S' := [⟨7, true, _, _⟩, ⟨3, true, _, _⟩, ⟨6, true, _, _⟩]) (M' := []) rfl rfl ?_
            refine End.nxt ?_
            refine Tr.seq ?_
            refine Tr.rg ?_
            refine TrL.op (ok_assign rfl (fun _ => rfl)) rfl rfl ?_
            refine TrL.fin ?_
            refine End.nxt ?_
            refine Tr.ret ?_
            exact Rts.res1 (fn := Try.f7) rfl (.b rfl (by first | rfl | omega | (simp; done) | (simp; omega) | assumption) <| .nil)

end Go.Fl

/- THE LAW OrigamiSaddles HOLDS FOR EVERY INPUT: whatever the arguments, the call returns true, and each argument reads behind it as before. Conditions: those of the given row (its listed variables as the program lays them). -/
namespace Go.Proofs.Ytphkjcmonjbpfaa
open Go Go.Fl Go.RowKit Go.ChangeShapes Go.WideShapes Go.ChangeAt

theorem rdt22 : RdT Try.prog 22 (eL eI) (ListP (okI .i64)) := RdT.slice RdT.int rfl rfl rfl
theorem rdt24t : RdT Try.prog 24 (eP (eL eI) (eP (eL eI) eU)) (AndP (ListP (okI .i64)) (AndP (ListP (okI .i64)) UnitP)) := by
  refine RdT.struct (l := [_, _]) Try.underlying24 rfl (by kernel_rfl) ?_
  refine FldT.cons rdt22 (by rfl) (by rfl) (by rfl) ?_
  refine FldT.cons rdt22 (by rfl) (by rfl) (by rfl) ?_
  exact FldT.nil
theorem rdt24 : RdT Try.prog 24 eO (fun o : Ori => ListP (okI .i64) o.1 ∧ ListP (okI .i64) o.2) := RdT.conv rdt24t (fun x => ((x.1, x.2.1) : Ori)) (fun _ _ _ h => h) (fun _ h => ⟨h.1, h.2.1⟩)
theorem own : ownKnob Try.prog.godebug = none := by kernel_rfl
set_option maxRecDepth 100000 in
theorem lifted0 (os : Os) (started : os.Started) (H : Type) (enc : TypeId × Value → H) :
    ReturnsInHanded {} Try.checked os 7 .any (fun w args => (Rows.origamiSaddlesSpec.pre enc Try.prog Try.f7 [] false w args ∧ True) ∧ sizedMet enc Try.prog Try.f7 (OpenSpec.ofChange Rows.origamiSaddlesSpec) false w args)
      (Rows.origamiSaddlesSpec.post enc Try.prog Try.f7 false true false false) := by
  refine returnsInHanded_of_change_and (C := Try.checked) (X := fun _ _ => True) (fun _ _ _ _ h => h) own started (by kernel_rfl) Try.func7
    (ChangeSpec.witness_shaped (enc := enc) (C := Try.checked) (os := os) (X := fun _ _ => True) false (World.laidAll Try.prog os Rows.origamiSaddlesRow.laid) #[.agg #[.slice none 0 0, .slice none 0 0]] 8 (World.laidAll_os _ _ _)
      (World.shaped_of_ZipB (by kernel_rfl) (by kernel_rfl)) (by kernel_rfl) (by kernel_rfl) (by kernel_rfl)
      trivial) ?_
  intro W base args ds gs before hval0 hW _ hwt hL _
  have hval : ∀ (j : Nat) t v, Try.f7.params[j]? = some t → args[j]? = some v → Value.okWide Try.prog W .any base t v := hval0
  have hpost : ∀ W', Below W.heap.size W W' → Rows.origamiSaddlesSpec.post enc Try.prog Try.f7 false true false false W args (.bool true) W' := fun W' hb => law_post (by kernel_rfl) (by kernel_rfl) (by kernel_rfl) hW (by kernel_rfl) rfl (fun hg => by
    subst hg
    obtain ⟨p, q, hA0, _⟩ := hW
    have hA : DataW.TrodAll enc Try.prog W 0 (fun _ => true) true Try.f7.params.toList args.toList ds p := hA0
    rw [Try.params7] at hA
    obtain ⟨v0, d0, rfl, rfl, _⟩ := trodAll_one hA
    rfl) rfl Try.underlying4 hb
  have hW0 := hW
  obtain ⟨p, q, hA0, hV, rfl, _, _⟩ := hW0
  have hA : DataW.TrodAll enc Try.prog W 0 (fun _ => true) true Try.f7.params.toList args.toList ds p := hA0
  rw [Try.params7] at hA hval hwt
  obtain ⟨rfl, rfl⟩ := trodVars_none hV
  obtain ⟨v0, d0, rfl, rfl, h0⟩ := trodAll_one hA
  have hwt' : (DataW.weightsEach Try.prog [24] [d0]).all (· ≤ reachBytes) = true := hwt
  have w0 := weights_cons hwt'
  obtain ⟨x0, k0, r0⟩ := RdT.val (by exact rdt24 : RdT Try.prog 24 eO (fun o : Ori => ListP (okI .i64) o.1 ∧ ListP (okI .i64) o.2)) rfl (hval 0 24 v0 rfl rfl) h0 w0.1
  refine Ct.law (vs := #[v0]) (ct_OrigamiSaddles x0) ?_ fun W' hb => ⟨_, rfl, hpost W' hb⟩
  exact ⟨k0, trivial⟩
theorem lifted (os : Os) (started : os.Started) (H : Type) (enc : TypeId × Value → H) :
    ReturnsInHanded {} Try.checked os 7 .any (fun w args => Rows.origamiSaddlesSpec.pre enc Try.prog Try.f7 [] false w args ∧ sizedMet enc Try.prog Try.f7 (OpenSpec.ofChange Rows.origamiSaddlesSpec) false w args)
      (Rows.origamiSaddlesSpec.post enc Try.prog Try.f7 false true false false) := by
  have h := lifted0 os started H enc
  simp only [and_true] at h
  exact h
theorem holds : Rows.origamiSaddlesRow.holds Try.pinned (OpenSpec.ofChange Rows.origamiSaddlesSpec) :=
  OpenClaim.holds_of_wide 7 Try.f7 rfl rfl rfl rfl rfl rfl rfl ⟨rfl, rfl, rfl, rfl, rfl⟩ rfl rfl rfl rfl rfl (by kernel_rfl) Try.func7 (by kernel_rfl)
    (of_decide_eq_true (by kernel_rfl)) (by unfold Func.isWrapper; first | (rw [if_pos (by decide +kernel)]; kernel_rfl) | (rw [if_neg (by decide +kernel)]; exact ⟨rfl, rfl⟩))
    (fun os started H enc _ => lifted os started H enc)
theorem origamiSaddles_holds : Rows.OrigamiSaddlesSaid := holds
end Go.Proofs.Ytphkjcmonjbpfaa
