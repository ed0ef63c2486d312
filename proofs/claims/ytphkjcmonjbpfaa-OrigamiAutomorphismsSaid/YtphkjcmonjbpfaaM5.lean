/- THE LAW OrigamiAutomorphisms HOLDS FOR EVERY INPUT: whatever the arguments, the call returns true, and each argument reads behind it as before. Conditions: those of the given row (its listed variables as the program lays them). -/
import Derived.Test.YtphkjcmonjbpfaaM4
import Derived.Test.YtphkjcmonjbpfaaRows

/- Contracts: automorphisms, quotients. -/
namespace Go.Fl
open Go Go.Proofs

instance : NB 121 122 := ⟨rfl⟩

noncomputable def lstTo (o : Ori) (k : Nat) : List Int := fillTo 0 (fun i : Nat => mnO o i) o.1.length k
theorem lstTo_len {o : Ori} {k : Nat} : (lstTo o k).length = o.1.length := fillTo_len
theorem lst_step {xs : List Int} {k : Nat} {m y : Int} (h : k < xs.length) : (xs.set k m).set k (if y < nth (xs.set k m) k then y else nth (xs.set k m) k) = xs.set k (min m y) := by
  rw [List.set_set, nth_set h, if_pos rfl]
  congr 1
  split <;> omega
theorem lst_get {xs : List Int} {k : Nat} {m : Int} (h : k < xs.length) : nth (xs.set k m) k = m := by rw [nth_set h, if_pos rfl]
noncomputable def clsF (o : Ori) (y : Nat) : Int := atL (frs o o.1.length) (mnO o y)

set_option maxRecDepth 100000 in
theorem ct_oAuto (o : Ori) : Ct Try.prog 57 [kRd eO o] (kTup [kRd (eL (eL eI)) (if chk1 o = 0 then mapsL o o else []), kI (chk1 o)]) := by
  refine Ct.mk Try.func57 rfl Try.ntmps57 rfl (fun w J => ?_)
  refine Tr.seq ?_
  refine Tr.rg ?_
  refine TrL.new (ok_box 1 rfl (fun _ => rfl) rfl) rfl rfl rfl rfl ?_
  refine TrL.op (ok_assign rfl (fun _ => rfl)) rfl rfl ?_
  refine TrL.op (ok_assign rfl (fun _ => rfl)) rfl rfl ?_
  refine TrL.fin ?_
  refine End.nxt ?_
  refine Tr.seq ?_
  refine Tr.seq ?_
  refine Tr.rg ?_
  refine TrL.op (ok_ldBS rfl (fun _ => rfl)) rfl rfl ?_
  refine TrL.op (ok_bslJ eO (fun hp => .cons rfl <| .nil) rfl rfl rfl rfl) rfl rfl ?_
  refine TrL.op (ok_call (fun hp => ct_connected [o]) (.a rfl (fun _ => rfl) <| .nil)) rfl rfl ?_
  refine TrL.op (ok_assign rfl (fun _ => rfl)) rfl rfl ?_
  refine TrL.fin ?_
  refine End.nxt ?_
  refine Tr.seq ?_
  refine Tr.rg ?_
  refine TrL.op (ok_move rfl (fun _ => rfl)) rfl rfl ?_
  refine TrL.op (ok_neq rfl (fun _ => rfl) rfl (fun _ => rfl)) rfl rfl ?_
  refine TrL.fin ?_
  refine End.nxt ?_
  refine Tr.cnd rfl ?_ ?_
  · intro h2
    replace h2 := of_decide_eq_true h2
    rw [connE_one] at h2
    refine Tr.seq ?_
    refine Tr.rg ?_
    refine TrL.op (ok_move rfl (fun _ => rfl)) rfl rfl ?_
    refine TrL.op (ok_assign rfl (fun _ => rfl)) rfl rfl ?_
    refine TrL.op (ok_assign rfl (fun _ => rfl)) rfl rfl ?_
    refine TrL.fin ?_
    refine End.nxt ?_
    refine Tr.ret ?_
    refine Rts.thn ?_
    exact Rts.res (fn := Try.f57) (ts := [2, 3]) rfl rfl (.n rfl (by rw [if_neg h2]) <| .i rfl (by rw [connE_one]) <| .nil)
  · intro h2
    replace h2 := Classical.not_not.1 (of_decide_eq_false h2)
    rw [connE_one] at h2
    obtain ⟨v, cn⟩ := chk1_zero h2
    refine Tr.skip ?_
    refine End.nxt ?_
    refine Tr.seq ?_
    refine Tr.rg ?_
    refine TrL.op (ok_ldBS rfl (fun _ => rfl)) rfl rfl ?_
    refine TrL.op (ok_ldBS rfl (fun _ => rfl)) rfl rfl ?_
    refine TrL.op (ok_call (fun hp => ct_maps _ _ v cn v) (.s rfl (fun _ => rfl) rfl <| .s rfl (fun _ => rfl) rfl <| .nil)) rfl rfl ?_
    refine TrL.op (ok_assign rfl (fun _ => rfl)) rfl rfl ?_
    refine TrL.op (ok_assign rfl (fun _ => rfl)) rfl rfl ?_
    refine TrL.fin ?_
    refine End.nxt ?_
    refine Tr.ret ?_
    exact Rts.res (fn := Try.f57) (ts := [2, 3]) rfl rfl (.r rfl (by rw [if_pos h2]) <| .i rfl h2.symm <| .nil)

set_option maxRecDepth 100000 in
set_option maxHeartbeats 2000000 in
theorem ct_oQuot (o : Ori) : Ct Try.prog 58 [kRd eO o] (kTup [kRd eO (if chk1 o = 0 then quoO o else ([], [])), kRd (eL eI) (if chk1 o = 0 then cls o else []), kI (chk1 o)]) := by
  refine Ct.mk Try.func58 rfl Try.ntmps58 rfl (fun w J => ?_)
  refine Tr.seq ?_
  refine Tr.rg ?_
  refine TrL.new (ok_box 1 rfl (fun _ => rfl) rfl) rfl rfl rfl rfl ?_
  refine TrL.new (ok_alloc 2) rfl rfl rfl rfl ?_
  refine TrL.op (ok_assign rfl (fun _ => rfl)) rfl rfl ?_
  refine TrL.op (ok_assign rfl (fun _ => rfl)) rfl rfl ?_
  refine TrL.fin ?_
  refine End.nxt ?_
  refine Tr.seq ?_
  refine Tr.seq ?_
  refine Tr.rg ?_
  refine TrL.op (ok_ldBS rfl (fun _ => rfl)) rfl rfl ?_
  refine TrL.op (ok_bslJ eO (fun hp => .cons rfl <| .nil) rfl rfl rfl rfl) rfl rfl ?_
  refine TrL.op (ok_call (fun hp => ct_connected [o]) (.a rfl (fun _ => rfl) <| .nil)) rfl rfl ?_
  refine TrL.op (ok_assign rfl (fun _ => rfl)) rfl rfl ?_
  refine TrL.fin ?_
  refine End.nxt ?_
  refine Tr.seq ?_
  refine Tr.rg ?_
  refine TrL.op (ok_move rfl (fun _ => rfl)) rfl rfl ?_
  refine TrL.op (ok_neq rfl (fun _ => rfl) rfl (fun _ => rfl)) rfl rfl ?_
  refine TrL.fin ?_
  refine End.nxt ?_
  refine Tr.cnd rfl ?_ ?_
  · intro h2
    replace h2 := of_decide_eq_true h2
    rw [connE_one] at h2
    refine Tr.seq ?_
    refine Tr.rg ?_
    refine TrL.op (ok_build (fun hp => .nil)) rfl rfl ?_
    refine TrL.op (ok_move rfl (fun _ => rfl)) rfl rfl ?_
    refine TrL.stB rfl rfl rfl rfl ?_
    refine TrL.op (ok_assign rfl (fun _ => rfl)) rfl rfl ?_
    refine TrL.op (ok_assign rfl (fun _ => rfl)) rfl rfl ?_
    refine TrL.fin ?_
    refine End.nxt ?_
    refine Tr.ret ?_
    refine Rts.thn ?_
    exact Rts.resC (fn := Try.f58) (ts := [3, 4]) rfl rfl rfl (aggRd rfl (by rw [if_neg h2])) (.n rfl (by rw [if_neg h2]) <| .i rfl (by rw [connE_one]) <| .nil)
  · intro h2
    replace h2 := Classical.not_not.1 (of_decide_eq_false h2)
    rw [connE_one] at h2
    obtain ⟨v, cn⟩ := chk1_zero h2
    have hv0 := v.pos
    have hv1 := v.len
    have hv2 := v.le
    have hml : (mapsL o o).length ≤ 60 := (by have := mapsTo_len (a := o) (b := o) (k := o.1.length); unfold mapsL; omega)
    refine Tr.skip ?_
    refine End.nxt ?_
    refine Tr.seq ?_
    refine Tr.rg ?_
    refine TrL.op (ok_ldBS rfl (fun _ => rfl)) rfl rfl ?_
    refine TrL.op (ok_ldBS rfl (fun _ => rfl)) rfl rfl ?_
    refine TrL.op (ok_call (fun hp => ct_maps _ _ v cn v) (.s rfl (fun _ => rfl) rfl <| .s rfl (fun _ => rfl) rfl <| .nil)) rfl rfl ?_
    refine TrL.op (ok_assign rfl (fun _ => rfl)) rfl rfl ?_
    refine TrL.fin ?_
    refine End.nxt ?_
    refine Tr.seq ?_
    refine Tr.rg ?_
    refine TrL.op (ok_bslJ eI (fun hp => .cons rfl <| .nil) rfl rfl rfl rfl) rfl rfl ?_
    refine TrL.op (ok_fldO rfl (fun _ => rfl)) rfl rfl ?_
    refine TrL.op (ok_ldB rfl (fun _ => rfl) rfl) rfl rfl ?_
    refine TrL.op (ok_lenJ rfl (fun _ => rfl)) rfl rfl ?_
    refine TrL.new (ok_callN 29 (fun hp => ct_RepeatN _ _ (by omega) (by omega)) (.a rfl (fun _ => rfl) <| .a rfl (fun _ => rfl) <| .nil)) rfl rfl rfl rfl ?_
    refine TrL.op (ok_assign rfl (fun _ => rfl)) rfl rfl ?_
    refine TrL.fin ?_
    refine End.nxt ?_
    refine Tr.seq ?_
    refine Tr.rg ?_
    refine TrL.op (ok_assign rfl (fun _ => rfl)) rfl rfl ?_
    refine TrL.fin ?_
    refine End.nxt ?_
    refine Tr.seq ?_
    refine Tr.seq ?_
    refine Tr.rg ?_
    refine TrL.op (ok_fldO rfl (fun _ => rfl)) rfl rfl ?_
    refine TrL.op (ok_ldB rfl (fun _ => rfl) rfl) rfl rfl ?_
    refine TrL.op (ok_lenJ rfl (fun _ => rfl)) rfl rfl ?_
    refine TrL.op (ok_move rfl (fun _ => rfl)) rfl rfl ?_
    refine TrL.fin ?_
    refine End.nxt ?_
    refine Tr.grow (s := 8) rfl rfl 8 rfl 3 eI rfl ?_
    refine Tr.for1 (σ := Nat) [⟨1, true, _, _⟩, ⟨2, true, _, _⟩, ⟨6, true, _, _⟩, ⟨7, true, _, _⟩, ⟨32, true, _, _⟩] [⟨1, _, _⟩, ⟨2, _, _⟩] (fun k => [⟨8, true, [8], kOsl 8 (frs o k).length⟩, ⟨33, true, [], kI (k : Int)⟩]) (fun k => [⟨8, [], cArr true 3 eI (frs o k) (frs o k).length⟩, ⟨29, [], cArr false 3 eI (clsTo o k) o.1.length⟩]) (fun k => k ≤ o.1.length) (fun k => k = o.1.length) (fun k => o.1.length - k) (0) (Nat.zero_le _) (Ent.mk (.o rfl (by first | rfl | omega | (simp; done) | (simp; omega) | assumption) rfl <| .i rfl (by first | rfl | omega | (simp; done) | (simp; omega) | assumption) <| .k rfl rfl <| .k rfl rfl <| .k rfl rfl <| .k rfl rfl <| .k rfl rfl <| .nil) (.a (by rfl) (by first | rfl | omega | (simp; done) | (simp; omega) | assumption) <| .a clsTo_zero (by first | rfl | omega | (simp; done) | (simp; omega) | assumption) <| .k rfl <| .k rfl <| .nil) rfl) ?_ ?_
    · intro k hR0
      refine Tr.norm (S' := [⟨8, true, _, _⟩, ⟨33, true, _, _⟩, ⟨1, true, _, _⟩, ⟨2, true, _, _⟩, ⟨6, true, _, _⟩, ⟨7, true, _, _⟩, ⟨32, true, _, _⟩]) (M' := [⟨8, _, _⟩, ⟨29, _, _⟩, ⟨1, _, _⟩, ⟨2, _, _⟩]) rfl rfl ?_
      have hfl := frs_len (o := o) (k := k)
      refine Tr.seq ?_
      refine Tr.rg ?_
      refine TrL.op (ok_lss rfl (fun _ => rfl) rfl (fun _ => rfl)) rfl rfl ?_
      refine TrL.fin ?_
      refine End.nxt ?_
      refine Tr.seq ?_
      refine Tr.cnd rfl ?_ ?_
      · intro h8
        replace h8 := of_decide_eq_true h8
        have hk : k < o.1.length := by omega
        have hcl := clsTo_len (o := o) (k := k)
        have hcn := clsTo_neg v cn hk
        refine Tr.skip ?_
        refine End.nxt ?_
        refine Tr.seq ?_
        refine Tr.blk ?_
        refine Tr.seq ?_
        refine Tr.rg ?_
        refine TrL.op (ok_move rfl (fun _ => rfl)) rfl rfl ?_
        refine TrL.op (ok_assign rfl (fun _ => rfl)) rfl rfl ?_
        refine TrL.fin ?_
        refine End.nxt ?_
        refine Tr.seq ?_
        refine Tr.seq ?_
        refine Tr.rg ?_
        refine TrL.op (ok_move rfl (fun _ => rfl)) rfl rfl ?_
        refine TrL.op (ok_move rfl (fun _ => rfl)) rfl rfl ?_
        first | refine TrL.op (ok_idxEN rfl (fun _ => rfl) rfl (fun _ => rfl) (fun _ => by omega)) rfl rfl ?_ | refine TrL.op (ok_idxE rfl (fun _ => rfl) rfl (fun _ => rfl) (fun _ => by omega)) rfl rfl ?_
        refine TrL.op (ok_ldE rfl (fun _ => rfl) rfl rfl rfl) rfl rfl ?_
        refine TrL.op (ok_geq rfl (fun _ => rfl) rfl (fun _ => rfl)) rfl rfl ?_
        refine TrL.fin ?_
        refine End.nxt ?_
        refine Tr.cnd rfl ?_ ?_
        · intro h10
          replace h10 := of_decide_eq_true h10
          have hne : mnO o k ≠ k := fun e => by have := hcn.2 e; omega
          refine Tr.exit ?_
          refine Exs.thn ?_
          refine Exs.here ?_
          refine End.nxt ?_
          refine Tr.rg ?_
          refine TrL.op (ok_add rfl (fun _ => rfl) rfl (fun _ => rfl) (fun _ => by omega)) rfl rfl ?_
          refine TrL.op (ok_move rfl (fun _ => rfl)) rfl rfl ?_
          refine TrL.fin ?_
          exact End.lp (k + 1) (by first | rfl | omega | (simp; done) | (simp; omega) | assumption) (by omega) (Ent.mk (.o rfl (by rw [frs_no hne]) rfl <| .i rfl (by first | rfl | omega | (simp; done) | (simp; omega) | assumption) <| .k rfl rfl <| .k rfl rfl <| .k rfl rfl <| .k rfl rfl <| .k rfl rfl <| .nil) (.a (by rw [frs_no hne]) (by rw [frs_no hne]) <| .a (clsTo_same hne).symm (by first | rfl | omega | (simp; done) | (simp; omega) | assumption) <| .k rfl <| .k rfl <| .nil) rfl)
        · intro h10
          replace h10 := Int.not_le.1 (of_decide_eq_false h10)
          have hmn : mnO o k = k := hcn.1 (by omega)
          refine Tr.skip ?_
          refine End.nxt ?_
          refine Tr.seq ?_
          refine Tr.seq ?_
          refine Tr.rg ?_
          refine TrL.op (ok_move rfl (fun _ => rfl)) rfl rfl ?_
          refine TrL.op (ok_lenJ rfl (fun _ => rfl)) rfl rfl ?_
          refine TrL.op (ok_move rfl (fun _ => rfl)) rfl rfl ?_
          refine TrL.fin ?_
          refine End.nxt ?_
          refine Tr.for1 (σ := Nat) [⟨1, true, _, _⟩, ⟨2, true, _, _⟩, ⟨6, true, _, _⟩, ⟨7, true, _, _⟩, ⟨8, true, _, _⟩, ⟨9, true, _, _⟩, ⟨32, true, _, _⟩, ⟨33, true, _, _⟩, ⟨41, true, _, _⟩, ⟨42, true, _, _⟩] [⟨1, _, _⟩, ⟨2, _, _⟩, ⟨8, _, _⟩] (fun i => [⟨43, true, [], kI (i : Int)⟩]) (fun i => [⟨29, [], cArr false 3 eI (clsIn o k i) o.1.length⟩]) (fun i => i ≤ (mapsL o o).length) (fun i => i = (mapsL o o).length) (fun i => (mapsL o o).length - i) (0) (Nat.zero_le _) (Ent.mk (.i rfl (by first | rfl | omega | (simp; done) | (simp; omega) | assumption) <| .k rfl rfl <| .k rfl rfl <| .k rfl rfl <| .k rfl rfl <| .k rfl rfl <| .k rfl rfl <| .k rfl rfl <| .k rfl rfl <| .k rfl rfl <| .k rfl rfl <| .nil) (.a clsIn_zero (by first | rfl | omega | (simp; done) | (simp; omega) | assumption) <| .k rfl <| .k rfl <| .k rfl <| .nil) rfl) ?_ ?_
          · intro i hR1
            refine Tr.norm (S' := [⟨43, true, _, _⟩, ⟨1, true, _, _⟩, ⟨2, true, _, _⟩, ⟨6, true, _, _⟩, ⟨7, true, _, _⟩, ⟨8, true, _, _⟩, ⟨9, true, _, _⟩, ⟨32, true, _, _⟩, ⟨33, true, _, _⟩, ⟨41, true, _, _⟩, ⟨42, true, _, _⟩]) (M' := [⟨29, _, _⟩, ⟨1, _, _⟩, ⟨2, _, _⟩, ⟨8, _, _⟩]) rfl rfl ?_
            refine Tr.seq ?_
            refine Tr.rg ?_
            refine TrL.op (ok_lss rfl (fun _ => rfl) rfl (fun _ => rfl)) rfl rfl ?_
            refine TrL.fin ?_
            refine End.nxt ?_
            refine Tr.seq ?_
            refine Tr.cnd rfl ?_ ?_
            · intro h12
              replace h12 := of_decide_eq_true h12
              refine Tr.skip ?_
              refine End.nxt ?_
              refine Tr.seq ?_
              refine Tr.blk ?_
              refine Tr.seq ?_
              refine Tr.rg ?_
              first | refine TrL.op (ok_idxN rfl (fun _ => rfl) rfl (fun _ => rfl) rfl (fun _ => by omega)) rfl rfl ?_ | refine TrL.op (ok_idxP rfl (fun _ => rfl) rfl (fun _ => rfl) rfl (fun _ => by omega)) rfl rfl ?_
              refine TrL.op (ok_ldP rfl (fun _ => rfl) rfl) rfl rfl ?_
              refine TrL.op (ok_assign rfl (fun _ => rfl)) rfl rfl ?_
              refine TrL.fin ?_
              refine End.nxt ?_
              refine Tr.rg ?_
              have hf := (mem_mapsL v cn).1 (nth_mem (xs := (mapsL o o)) (i := i) (by omega))
              have hfln := hf.len
              have hfs : 0 ≤ nth (nth (mapsL o o) i) k ∧ nth (nth (mapsL o o) i) k < o.1.length := by simpa [ap, Sq] using hf.sq (Sq.nat hk)
              have hcin := clsIn_len (o := o) (k := k) (i := i)
              refine TrL.op (ok_move rfl (fun _ => rfl)) rfl rfl ?_
              refine TrL.op (ok_move rfl (fun _ => rfl)) rfl rfl ?_
              refine TrL.op (ok_move rfl (fun _ => rfl)) rfl rfl ?_
              first | refine TrL.op (ok_idxN rfl (fun _ => rfl) rfl (fun _ => rfl) rfl (fun _ => by omega)) rfl rfl ?_ | refine TrL.op (ok_idxP rfl (fun _ => rfl) rfl (fun _ => rfl) rfl (fun _ => by omega)) rfl rfl ?_
              refine TrL.op (ok_ldP rfl (fun _ => rfl) rfl) rfl rfl ?_
              refine TrL.op (ok_move rfl (fun _ => rfl)) rfl rfl ?_
              refine TrL.op (ok_lenO rfl (fun _ => rfl)) rfl rfl ?_
              first | refine TrL.op (ok_idxEN rfl (fun _ => rfl) rfl (fun _ => rfl) (fun _ => by omega)) rfl rfl ?_ | refine TrL.op (ok_idxE rfl (fun _ => rfl) rfl (fun _ => rfl) (fun _ => by omega)) rfl rfl ?_
              refine TrL.stE rfl rfl rfl rfl rfl ?_
              refine TrL.fin ?_
              refine End.blk ?_
              refine End.nxt ?_
              refine Tr.rg ?_
              refine TrL.op (ok_add rfl (fun _ => rfl) rfl (fun _ => rfl) (fun _ => by omega)) rfl rfl ?_
              refine TrL.op (ok_move rfl (fun _ => rfl)) rfl rfl ?_
              refine TrL.fin ?_
              exact End.lp (i + 1) (by first | rfl | omega | (simp; done) | (simp; omega) | assumption) (by omega) (Ent.mk (.i rfl (by first | rfl | omega | (simp; done) | (simp; omega) | assumption) <| .k rfl rfl <| .k rfl rfl <| .k rfl rfl <| .k rfl rfl <| .k rfl rfl <| .k rfl rfl <| .k rfl rfl <| .k rfl rfl <| .k rfl rfl <| .k rfl rfl <| .nil) (.a (clsIn_succ v cn hk (by omega)) (by first | rfl | omega | (simp; done) | (simp; omega) | assumption) <| .k rfl <| .k rfl <| .k rfl <| .nil) rfl)
            · intro h12
              replace h12 := Int.not_lt.1 (of_decide_eq_false h12)
              refine Tr.exit ?_
              refine Exs.thn ?_
              refine Exs.thn ?_
              refine Exs.here ?_
              exact End.cut (i) (by omega) (Ent.mk (.i rfl (by first | rfl | omega | (simp; done) | (simp; omega) | assumption) <| .k rfl rfl <| .k rfl rfl <| .k rfl rfl <| .k rfl rfl <| .k rfl rfl <| .k rfl rfl <| .k rfl rfl <| .k rfl rfl <| .k rfl rfl <| .k rfl rfl <| .nil) (.a (by first | rfl | omega | (simp; done) | (simp; omega) | assumption) (by first | rfl | omega | (simp; done) | (simp; omega) | assumption) <| .k rfl <| .k rfl <| .k rfl <| .nil) rfl)
          · rintro _ rfl
            refine End.norm (S' := [⟨43, true, _, _⟩, ⟨1, true, _, _⟩, ⟨2, true, _, _⟩, ⟨6, true, _, _⟩, ⟨7, true, _, _⟩, ⟨8, true, _, _⟩, ⟨9, true, _, _⟩, ⟨32, true, _, _⟩, ⟨33, true, _, _⟩, ⟨41, true, _, _⟩, ⟨42, true, _, _⟩]) (M' := [⟨29, _, _⟩, ⟨1, _, _⟩, ⟨2, _, _⟩, ⟨8, _, _⟩]) rfl rfl ?_
            refine End.nxt ?_
            refine Tr.rg ?_
            refine TrL.op (ok_move rfl (fun _ => rfl)) rfl rfl ?_
            refine TrL.op (ok_move rfl (fun _ => rfl)) rfl rfl ?_
            refine TrL.new (ok_bsl eI 58 (fun hp => .cons rfl <| .nil) rfl rfl rfl rfl) rfl rfl rfl rfl ?_
            refine TrL.app rfl rfl rfl rfl rfl rfl rfl rfl (by first | omega | (simp only [List.length_cons, List.length_nil]; omega)) (by first | omega | (simp only [List.length_cons, List.length_nil]; omega)) ?_
            refine TrL.norm (S' := [⟨_, _, _, _⟩, ⟨_, _, _, _⟩, ⟨_, _, _, _⟩, ⟨_, _, _, _⟩, ⟨_, _, _, _⟩, ⟨_, _, _, _⟩, ⟨_, _, _, _⟩, ⟨_, _, _, _⟩, ⟨_, _, _, _⟩, ⟨_, _, _, _⟩, ⟨_, _, _, _⟩, ⟨_, _, _, _⟩, ⟨_, _, _, _⟩, ⟨_, _, _, _⟩, ⟨_, _, _, _⟩]) rfl rfl ?_
            refine TrL.op (ok_assign rfl (fun _ => rfl)) rfl rfl ?_
            refine TrL.fin ?_
            refine End.blk ?_
            refine End.nxt ?_
            refine Tr.rg ?_
            refine TrL.op (ok_add rfl (fun _ => rfl) rfl (fun _ => rfl) (fun _ => by omega)) rfl rfl ?_
            refine TrL.op (ok_move rfl (fun _ => rfl)) rfl rfl ?_
            refine TrL.fin ?_
            exact End.lp (k + 1) (by first | rfl | omega | (simp; done) | (simp; omega) | assumption) (by omega) (Ent.mk (.o rfl (by rw [frs_yes hmn, List.length_append, List.length_singleton]) rfl <| .i rfl (by first | rfl | omega | (simp; done) | (simp; omega) | assumption) <| .k rfl rfl <| .k rfl rfl <| .k rfl rfl <| .k rfl rfl <| .k rfl rfl <| .nil) (.a (by rw [frs_yes hmn]) (by rw [frs_yes hmn, List.length_append, List.length_singleton]) <| .a (clsIn_end v cn hk hmn) (by first | rfl | omega | (simp; done) | (simp; omega) | assumption) <| .k rfl <| .k rfl <| .nil) rfl)
      · intro h8
        replace h8 := Int.not_lt.1 (of_decide_eq_false h8)
        refine Tr.exit ?_
        refine Exs.thn ?_
        refine Exs.thn ?_
        refine Exs.here ?_
        exact End.cut (k) (by omega) (Ent.mk (.o rfl (by first | rfl | omega | (simp; done) | (simp; omega) | assumption) rfl <| .i rfl (by first | rfl | omega | (simp; done) | (simp; omega) | assumption) <| .k rfl rfl <| .k rfl rfl <| .k rfl rfl <| .k rfl rfl <| .k rfl rfl <| .nil) (.a (by first | rfl | omega | (simp; done) | (simp; omega) | assumption) (by first | rfl | omega | (simp; done) | (simp; omega) | assumption) <| .a (by first | rfl | omega | (simp; done) | (simp; omega) | assumption) (by first | rfl | omega | (simp; done) | (simp; omega) | assumption) <| .k rfl <| .k rfl <| .nil) rfl)
    · rintro _ rfl
      refine End.norm (S' := [⟨8, true, _, _⟩, ⟨33, true, _, _⟩, ⟨1, true, _, _⟩, ⟨2, true, _, _⟩, ⟨6, true, _, _⟩, ⟨7, true, _, _⟩, ⟨32, true, _, _⟩]) (M' := [⟨8, _, _⟩, ⟨29, _, _⟩, ⟨1, _, _⟩, ⟨2, _, _⟩]) rfl rfl ?_
      have hfl := frs_len (o := o) (k := o.1.length)
      refine End.nxt ?_
      refine Tr.seq ?_
      refine Tr.rg ?_
      refine TrL.new (ok_alloc 12) rfl rfl rfl rfl ?_
      refine TrL.fin ?_
      refine End.nxt ?_
      refine Tr.seq ?_
      refine Tr.seq ?_
      refine Tr.rg ?_
      refine TrL.op (ok_move rfl (fun _ => rfl)) rfl rfl ?_
      refine TrL.op (ok_lenO rfl (fun _ => rfl)) rfl rfl ?_
      refine TrL.op (ok_move rfl (fun _ => rfl)) rfl rfl ?_
      refine TrL.fin ?_
      refine End.nxt ?_
      refine Tr.growC 12 0 121 rfl (ks' := [kOsl 121 0, _]) rfl rfl 3 eI rfl (.cons inferInstance rfl <| .cons inferInstance rfl <| inferInstance) ?_
      refine Tr.growC 12 1 122 rfl (ks' := [_, kOsl 122 0]) rfl rfl 3 eI rfl (.cons inferInstance rfl <| .cons inferInstance rfl <| inferInstance) ?_
      refine Tr.for1 (σ := Nat) [⟨1, true, _, _⟩, ⟨2, true, _, _⟩, ⟨7, true, _, _⟩, ⟨12, true, _, _⟩, ⟨61, true, _, _⟩, ⟨62, true, _, _⟩] [⟨1, _, _⟩, ⟨2, _, _⟩, ⟨8, _, _⟩, ⟨29, _, _⟩] (fun i => [⟨63, true, [], kI (i : Int)⟩]) (fun i => [⟨121, [], cArr true 3 eI (tab i (quoF o o.1)) i⟩, ⟨122, [], cArr true 3 eI (tab i (quoF o o.2)) i⟩, ⟨12, [121, 122], cBlk [kOsl 121 i, kOsl 122 i]⟩]) (fun i => i ≤ (frs o o.1.length).length) (fun i => i = (frs o o.1.length).length) (fun i => (frs o o.1.length).length - i) (0) (Nat.zero_le _) (Ent.mk (.i rfl (by first | rfl | omega | (simp; done) | (simp; omega) | assumption) <| .k rfl rfl <| .k rfl rfl <| .k rfl rfl <| .k rfl rfl <| .k rfl rfl <| .k rfl rfl <| .nil) (.a (by rfl) (by first | rfl | omega | (simp; done) | (simp; omega) | assumption) <| .a (by rfl) (by first | rfl | omega | (simp; done) | (simp; omega) | assumption) <| .e (by rfl) rfl <| .k rfl <| .k rfl <| .k rfl <| .k rfl <| .nil) rfl) ?_ ?_
      · intro i hR2
        refine Tr.norm (S' := [⟨63, true, _, _⟩, ⟨1, true, _, _⟩, ⟨2, true, _, _⟩, ⟨7, true, _, _⟩, ⟨12, true, _, _⟩, ⟨61, true, _, _⟩, ⟨62, true, _, _⟩]) (M' := [⟨121, _, _⟩, ⟨122, _, _⟩, ⟨12, _, _⟩, ⟨1, _, _⟩, ⟨2, _, _⟩, ⟨8, _, _⟩, ⟨29, _, _⟩]) rfl rfl ?_
        refine Tr.seq ?_
        refine Tr.rg ?_
        refine TrL.op (ok_lss rfl (fun _ => rfl) rfl (fun _ => rfl)) rfl rfl ?_
        refine TrL.fin ?_
        refine End.nxt ?_
        refine Tr.seq ?_
        refine Tr.cnd rfl ?_ ?_
        · intro h20
          replace h20 := of_decide_eq_true h20
          refine Tr.skip ?_
          refine End.nxt ?_
          refine Tr.seq ?_
          refine Tr.blk ?_
          refine Tr.seq ?_
          refine Tr.rg ?_
          first | refine TrL.op (ok_idxEN rfl (fun _ => rfl) rfl (fun _ => rfl) (fun _ => by omega)) rfl rfl ?_ | refine TrL.op (ok_idxE rfl (fun _ => rfl) rfl (fun _ => rfl) (fun _ => by omega)) rfl rfl ?_
          refine TrL.op (ok_ldE rfl (fun _ => rfl) rfl rfl rfl) rfl rfl ?_
          refine TrL.op (ok_assign rfl (fun _ => rfl)) rfl rfl ?_
          refine TrL.fin ?_
          refine End.nxt ?_
          refine Tr.seq ?_
          refine Tr.draw 11 mixed (by kernel_rfl) ?_
          have hfr := cls_frs (o := o) (i := i) (by omega)
          have q0 := hfr.1.1
          have q1 := hfr.1.2
          have a1 : 0 ≤ nth o.1 (nth (frs o o.1.length) i).toNat ∧ nth o.1 (nth (frs o o.1.length) i).toNat < o.1.length := v.pR.aps hfr.1
          have a2 : 0 ≤ nth o.2 (nth (frs o o.1.length) i).toNat ∧ nth o.2 (nth (frs o o.1.length) i).toNat < o.1.length := v.pU.aps hfr.1
          have hcl := clsTo_len (o := o) (k := o.1.length)
          refine RunD.op (ok_fldO rfl (fun _ => rfl)) rfl rfl ?_
          refine RunD.op (ok_ldB rfl (fun _ => rfl) rfl) rfl rfl ?_
          refine RunD.op (ok_move rfl (fun _ => rfl)) rfl rfl ?_
          refine RunD.op (ok_fldO rfl (fun _ => rfl)) rfl rfl ?_
          refine RunD.op (ok_ldB rfl (fun _ => rfl) rfl) rfl rfl ?_
          refine RunD.op (ok_move rfl (fun _ => rfl)) rfl rfl ?_
          first | refine RunD.op (ok_idxN rfl (fun _ => rfl) rfl (fun _ => rfl) rfl (fun _ => by omega)) rfl rfl ?_ | refine RunD.op (ok_idxP rfl (fun _ => rfl) rfl (fun _ => rfl) rfl (fun _ => by omega)) rfl rfl ?_
          refine RunD.op (ok_ldP rfl (fun _ => rfl) rfl) rfl rfl ?_
          first | refine RunD.op (ok_idxEN rfl (fun _ => rfl) rfl (fun _ => rfl) (fun _ => by omega)) rfl rfl ?_ | refine RunD.op (ok_idxE rfl (fun _ => rfl) rfl (fun _ => rfl) (fun _ => by omega)) rfl rfl ?_
          refine RunD.op (ok_ldE rfl (fun _ => rfl) rfl rfl rfl) rfl rfl ?_
          refine RunD.new (ok_bsl eI 77 (fun hp => .cons rfl <| .nil) rfl rfl rfl rfl) rfl rfl rfl rfl ?_
          refine RunD.z ?_
          refine TrL.wkC 12 (.any <| .k <| .nil) rfl ?_
          refine TrL.app rfl rfl rfl rfl rfl rfl rfl rfl (by first | omega | (simp only [List.length_cons, List.length_nil]; omega)) (by first | omega | (simp only [List.length_cons, List.length_nil]; omega)) ?_
          refine TrL.norm (S' := [⟨_, _, _, _⟩, ⟨_, _, _, _⟩, ⟨_, _, _, _⟩, ⟨_, _, _, _⟩, ⟨_, _, _, _⟩, ⟨_, _, _, _⟩, ⟨_, _, _, _⟩, ⟨_, _, _, _⟩, ⟨_, _, _, _⟩, ⟨_, _, _, _⟩, ⟨_, _, _, _⟩, ⟨_, _, _, _⟩, ⟨_, _, _, _⟩, ⟨_, _, _, _⟩, ⟨_, _, _, _⟩, ⟨_, _, _, _⟩, ⟨_, _, _, _⟩, ⟨_, _, _, _⟩, ⟨_, _, _, _⟩, ⟨_, _, _, _⟩, ⟨_, _, _, _⟩, ⟨_, _, _, _⟩, ⟨_, _, _, _⟩]) rfl rfl ?_
          refine TrL.op (ok_fldO rfl (fun _ => rfl)) rfl rfl ?_
          refine TrL.stB rfl rfl rfl rfl ?_
          refine TrL.fin ?_
          refine End.nxt ?_
          refine Tr.draw 11 mixed (by kernel_rfl) ?_
          skip
          refine RunD.op (ok_fldO rfl (fun _ => rfl)) rfl rfl ?_
          refine RunD.op (ok_ldB rfl (fun _ => rfl) rfl) rfl rfl ?_
          refine RunD.op (ok_move rfl (fun _ => rfl)) rfl rfl ?_
          refine RunD.op (ok_fldO rfl (fun _ => rfl)) rfl rfl ?_
          refine RunD.op (ok_ldB rfl (fun _ => rfl) rfl) rfl rfl ?_
          refine RunD.op (ok_move rfl (fun _ => rfl)) rfl rfl ?_
          first | refine RunD.op (ok_idxN rfl (fun _ => rfl) rfl (fun _ => rfl) rfl (fun _ => by omega)) rfl rfl ?_ | refine RunD.op (ok_idxP rfl (fun _ => rfl) rfl (fun _ => rfl) rfl (fun _ => by omega)) rfl rfl ?_
          refine RunD.op (ok_ldP rfl (fun _ => rfl) rfl) rfl rfl ?_
          first | refine RunD.op (ok_idxEN rfl (fun _ => rfl) rfl (fun _ => rfl) (fun _ => by omega)) rfl rfl ?_ | refine RunD.op (ok_idxE rfl (fun _ => rfl) rfl (fun _ => rfl) (fun _ => by omega)) rfl rfl ?_
          refine RunD.op (ok_ldE rfl (fun _ => rfl) rfl rfl rfl) rfl rfl ?_
          refine RunD.new (ok_bsl eI 90 (fun hp => .cons rfl <| .nil) rfl rfl rfl rfl) rfl rfl rfl rfl ?_
          refine RunD.z ?_
          refine TrL.wkC 12 (.k <| .any <| .nil) rfl ?_
          refine TrL.app rfl rfl rfl rfl rfl rfl rfl rfl (by first | omega | (simp only [List.length_cons, List.length_nil]; omega)) (by first | omega | (simp only [List.length_cons, List.length_nil]; omega)) ?_
          refine TrL.norm (S' := ⟨_, _, _, _⟩ :: ⟨_, _, _, _⟩ :: ⟨_, _, _, _⟩ :: ⟨_, _, _, _⟩ :: ⟨_, _, _, _⟩ :: ⟨_, _, _, _⟩ :: ⟨_, _, _, _⟩ :: ⟨_, _, _, _⟩ :: ⟨_, _, _, _⟩ :: ⟨_, _, _, _⟩ :: ⟨_, _, _, _⟩ :: ⟨_, _, _, _⟩ :: ⟨_, _, _, _⟩ :: ⟨_, _, _, _⟩ :: ⟨_, _, _, _⟩ :: ⟨_, _, _, _⟩ :: ⟨_, _, _, _⟩ :: ⟨_, _, _, _⟩ :: ⟨_, _, _, _⟩ :: ⟨_, _, _, _⟩ :: ⟨_, _, _, _⟩ :: ⟨_, _, _, _⟩ :: ⟨_, _, _, _⟩ :: ⟨_, _, _, _⟩ :: ⟨_, _, _, _⟩ :: ⟨_, _, _, _⟩ :: ⟨_, _, _, _⟩ :: ⟨_, _, _, _⟩ :: ⟨_, _, _, _⟩ :: ⟨_, _, _, _⟩ :: ⟨_, _, _, _⟩ :: ⟨_, _, _, _⟩ :: ⟨_, _, _, _⟩ :: ⟨_, _, _, _⟩ :: ⟨_, _, _, _⟩ :: ⟨_, _, _, _⟩ :: []) rfl rfl ?_
          refine TrL.op (ok_fldO rfl (fun _ => rfl)) rfl rfl ?_
          refine TrL.stB rfl rfl rfl rfl ?_
          refine TrL.fin ?_
          refine End.blk ?_
          refine End.nxt ?_
          refine Tr.rg ?_
          refine TrL.op (ok_add rfl (fun _ => rfl) rfl (fun _ => rfl) (fun _ => by omega)) rfl rfl ?_
          refine TrL.op (ok_move rfl (fun _ => rfl)) rfl rfl ?_
          refine TrL.fin ?_
          exact End.lp (i + 1) (by first | rfl | omega | (simp; done) | (simp; omega) | assumption) (by omega) (Ent.mk (.i rfl (by first | rfl | omega | (simp; done) | (simp; omega) | assumption) <| .k rfl rfl <| .k rfl rfl <| .k rfl rfl <| .k rfl rfl <| .k rfl rfl <| .k rfl rfl <| .nil) (.a (by rw [tab_succ]; rfl) (by first | rfl | omega | (simp; done) | (simp; omega) | assumption) <| .a (by rw [tab_succ]; rfl) (by first | rfl | omega | (simp; done) | (simp; omega) | assumption) <| .e (by rfl) rfl <| .k rfl <| .k rfl <| .k rfl <| .k rfl <| .nil) rfl)
        · intro h20
          replace h20 := Int.not_lt.1 (of_decide_eq_false h20)
          refine Tr.exit ?_
          refine Exs.thn ?_
          refine Exs.thn ?_
          refine Exs.here ?_
          exact End.cut (i) (by omega) (Ent.mk (.i rfl (by first | rfl | omega | (simp; done) | (simp; omega) | assumption) <| .k rfl rfl <| .k rfl rfl <| .k rfl rfl <| .k rfl rfl <| .k rfl rfl <| .k rfl rfl <| .nil) (.a (by first | rfl | omega | (simp; done) | (simp; omega) | assumption) (by first | rfl | omega | (simp; done) | (simp; omega) | assumption) <| .a (by first | rfl | omega | (simp; done) | (simp; omega) | assumption) (by first | rfl | omega | (simp; done) | (simp; omega) | assumption) <| .k rfl <| .k rfl <| .k rfl <| .k rfl <| .k rfl <| .nil) rfl)
      · rintro _ rfl
        refine End.norm (S' := [⟨63, true, _, _⟩, ⟨1, true, _, _⟩, ⟨2, true, _, _⟩, ⟨7, true, _, _⟩, ⟨12, true, _, _⟩, ⟨61, true, _, _⟩, ⟨62, true, _, _⟩]) (M' := [⟨121, _, _⟩, ⟨122, _, _⟩, ⟨12, _, _⟩, ⟨1, _, _⟩, ⟨2, _, _⟩, ⟨8, _, _⟩, ⟨29, _, _⟩]) rfl rfl ?_
        refine End.nxt ?_
        refine Tr.seq ?_
        refine Tr.rg ?_
        refine TrL.op (ok_ldBS rfl (fun _ => rfl)) rfl rfl ?_
        refine TrL.op (ok_move rfl (fun _ => rfl)) rfl rfl ?_
        refine TrL.stB rfl rfl rfl rfl ?_
        refine TrL.op (ok_assign rfl (fun _ => rfl)) rfl rfl ?_
        refine TrL.op (ok_assign rfl (fun _ => rfl)) rfl rfl ?_
        refine TrL.fin ?_
        refine End.nxt ?_
        refine Tr.ent (S' := [⟨2, true, _, _⟩, ⟨3, true, _, _⟩, ⟨4, true, _, _⟩]) (M' := [⟨2, _, _⟩, ⟨29, _, _⟩, ⟨121, _, _⟩, ⟨122, _, _⟩]) (Ent.mk (.k rfl rfl <| .k rfl rfl <| .k rfl rfl <| .nil) (.k rfl <| .k rfl <| .k rfl <| .k rfl <| .nil) rfl) ?_
        refine Tr.frzC 121 2 (by simp only [lenMax]; omega) rfl rfl ?_
        refine Tr.frzC 122 2 (by simp only [lenMax]; omega) rfl rfl ?_
        refine Tr.frz 29 [3] ⟨rfl, trivial⟩ (by simp only [lenMax]; omega) rfl ?_
        refine Tr.ret ?_
        exact Rts.resC (fn := Try.f58) (ts := [3, 4]) rfl rfl rfl (aggRd rfl (by rw [if_pos h2]; rfl)) (.r rfl (by rw [if_pos h2]; rfl) <| .i rfl h2.symm <| .nil)

set_option maxRecDepth 100000 in
set_option maxHeartbeats 2000000 in
theorem ct_rQuot (o : Ori) (v : Valid o) (cn : Conn o) : Ct Try.prog 59 [kRd eO o] (kTup [kRd eO (quoO o), kRd (eL eI) (cls o)]) := by
  have hv0 := v.pos
  have hv1 := v.len
  have hv2 := v.le
  have hml : (mapsL o o).length ≤ 60 := (by have := mapsTo_len (a := o) (b := o) (k := o.1.length); unfold mapsL; omega)
  refine Ct.mk Try.func59 rfl Try.ntmps59 rfl (fun w J => ?_)
  refine Tr.seq ?_
  refine Tr.rg ?_
  refine TrL.new (ok_box 1 rfl (fun _ => rfl) rfl) rfl rfl rfl rfl ?_
  refine TrL.new (ok_alloc 2) rfl rfl rfl rfl ?_
  refine TrL.op (ok_assign rfl (fun _ => rfl)) rfl rfl ?_
  refine TrL.fin ?_
  refine End.nxt ?_
  refine Tr.seq ?_
  refine Tr.rg ?_
  refine TrL.op (ok_ldBS rfl (fun _ => rfl)) rfl rfl ?_
  refine TrL.op (ok_ldBS rfl (fun _ => rfl)) rfl rfl ?_
  refine TrL.op (ok_call (fun hp => ct_rMaps _ _ v cn v) (.s rfl (fun _ => rfl) rfl <| .s rfl (fun _ => rfl) rfl <| .nil)) rfl rfl ?_
  refine TrL.op (ok_assign rfl (fun _ => rfl)) rfl rfl ?_
  refine TrL.fin ?_
  refine End.nxt ?_
  refine Tr.seq ?_
  refine Tr.rg ?_
  refine TrL.op (ok_ldBS rfl (fun _ => rfl)) rfl rfl ?_
  refine TrL.op (ok_call (fun hp => ct_rSize _) (.s rfl (fun _ => rfl) rfl <| .nil)) rfl rfl ?_
  refine TrL.new (ok_makeN eI 18 rfl (fun _ => rfl) rfl (fun _ => rfl) rfl rfl rfl (fun _ => by omega)) rfl rfl rfl rfl ?_
  refine TrL.op (ok_assign rfl (fun _ => rfl)) rfl rfl ?_
  refine TrL.fin ?_
  refine End.nxt ?_
  refine Tr.seq ?_
  refine Tr.rg ?_
  refine TrL.op (ok_assign rfl (fun _ => rfl)) rfl rfl ?_
  refine TrL.fin ?_
  refine End.nxt ?_
  refine Tr.seq ?_
  refine Tr.seq ?_
  refine Tr.rg ?_
  refine TrL.op (ok_assign rfl (fun _ => rfl)) rfl rfl ?_
  refine TrL.fin ?_
  refine End.nxt ?_
  refine Tr.grow (s := 6) rfl rfl 6 rfl 3 eI rfl ?_
  refine Tr.for1 (σ := Nat) [⟨1, true, _, _⟩, ⟨2, true, _, _⟩, ⟨4, true, _, _⟩, ⟨5, true, _, _⟩] [⟨1, _, _⟩, ⟨2, _, _⟩] (fun k => [⟨6, true, [6], kOsl 6 (frs o k).length⟩, ⟨7, true, [], kI (k : Int)⟩]) (fun k => [⟨6, [], cArr true 3 eI (frs o k) (frs o k).length⟩, ⟨18, [], cArr false 3 eI (lstTo o k) o.1.length⟩]) (fun k => k ≤ o.1.length) (fun k => k = o.1.length) (fun k => o.1.length - k) (0) (Nat.zero_le _) (Ent.mk (.o rfl (by first | rfl | omega | (simp; done) | (simp; omega) | assumption) rfl <| .i rfl (by first | rfl | omega | (simp; done) | (simp; omega) | assumption) <| .k rfl rfl <| .k rfl rfl <| .k rfl rfl <| .k rfl rfl <| .nil) (.a (by rfl) (by first | rfl | omega | (simp; done) | (simp; omega) | assumption) <| .a fillTo_zero (by first | rfl | omega | (simp; done) | (simp; omega) | assumption) <| .k rfl <| .k rfl <| .nil) rfl) ?_ ?_
  · intro k hR0
    refine Tr.norm (S' := [⟨6, true, _, _⟩, ⟨7, true, _, _⟩, ⟨1, true, _, _⟩, ⟨2, true, _, _⟩, ⟨4, true, _, _⟩, ⟨5, true, _, _⟩]) (M' := [⟨6, _, _⟩, ⟨18, _, _⟩, ⟨1, _, _⟩, ⟨2, _, _⟩]) rfl rfl ?_
    have hfl := frs_len (o := o) (k := k)
    refine Tr.seq ?_
    refine Tr.seq ?_
    refine Tr.rg ?_
    refine TrL.op (ok_move rfl (fun _ => rfl)) rfl rfl ?_
    refine TrL.op (ok_ldBS rfl (fun _ => rfl)) rfl rfl ?_
    refine TrL.op (ok_call (fun hp => ct_rSize _) (.s rfl (fun _ => rfl) rfl <| .nil)) rfl rfl ?_
    refine TrL.op (ok_lss rfl (fun _ => rfl) rfl (fun _ => rfl)) rfl rfl ?_
    refine TrL.fin ?_
    refine End.nxt ?_
    refine Tr.cnd rfl ?_ ?_
    · intro h5
      replace h5 := of_decide_eq_true h5
      have hk : k < o.1.length := by omega
      have hll := lstTo_len (o := o) (k := k)
      refine Tr.skip ?_
      refine End.nxt ?_
      refine Tr.seq ?_
      refine Tr.blk ?_
      refine Tr.seq ?_
      refine Tr.rg ?_
      refine TrL.op (ok_move rfl (fun _ => rfl)) rfl rfl ?_
      refine TrL.op (ok_move rfl (fun _ => rfl)) rfl rfl ?_
      refine TrL.op (ok_move rfl (fun _ => rfl)) rfl rfl ?_
      first | refine TrL.op (ok_idxEN rfl (fun _ => rfl) rfl (fun _ => rfl) (fun _ => by omega)) rfl rfl ?_ | refine TrL.op (ok_idxE rfl (fun _ => rfl) rfl (fun _ => rfl) (fun _ => by omega)) rfl rfl ?_
      refine TrL.stE rfl rfl rfl rfl rfl ?_
      refine TrL.fin ?_
      refine End.nxt ?_
      refine Tr.seq ?_
      refine Tr.seq ?_
      refine Tr.rg ?_
      refine TrL.op (ok_assign rfl (fun _ => rfl)) rfl rfl ?_
      refine TrL.fin ?_
      refine End.nxt ?_
      refine Tr.for1 (σ := Nat) [⟨1, true, _, _⟩, ⟨2, true, _, _⟩, ⟨4, true, _, _⟩, ⟨5, true, _, _⟩, ⟨6, true, _, _⟩, ⟨7, true, _, _⟩] [⟨1, _, _⟩, ⟨2, _, _⟩, ⟨6, _, _⟩] (fun i => [⟨8, true, [], kI (i : Int)⟩]) (fun i => [⟨18, [], cArr false 3 eI ((lstTo o k).set k (mnL (mapsL o o) k i)) o.1.length⟩]) (fun i => i ≤ (mapsL o o).length) (fun i => i = (mapsL o o).length) (fun i => (mapsL o o).length - i) (0) (Nat.zero_le _) (Ent.mk (.i rfl (by first | rfl | omega | (simp; done) | (simp; omega) | assumption) <| .k rfl rfl <| .k rfl rfl <| .k rfl rfl <| .k rfl rfl <| .k rfl rfl <| .k rfl rfl <| .nil) (.a (by rfl) (by first | rfl | omega | (simp; done) | (simp; omega) | assumption) <| .k rfl <| .k rfl <| .k rfl <| .nil) rfl) ?_ ?_
      · intro i hR1
        refine Tr.norm (S' := [⟨8, true, _, _⟩, ⟨1, true, _, _⟩, ⟨2, true, _, _⟩, ⟨4, true, _, _⟩, ⟨5, true, _, _⟩, ⟨6, true, _, _⟩, ⟨7, true, _, _⟩]) (M' := [⟨18, _, _⟩, ⟨1, _, _⟩, ⟨2, _, _⟩, ⟨6, _, _⟩]) rfl rfl ?_
        refine Tr.seq ?_
        refine Tr.seq ?_
        refine Tr.rg ?_
        refine TrL.op (ok_move rfl (fun _ => rfl)) rfl rfl ?_
        refine TrL.op (ok_move rfl (fun _ => rfl)) rfl rfl ?_
        refine TrL.op (ok_lenJ rfl (fun _ => rfl)) rfl rfl ?_
        refine TrL.op (ok_lss rfl (fun _ => rfl) rfl (fun _ => rfl)) rfl rfl ?_
        refine TrL.fin ?_
        refine End.nxt ?_
        refine Tr.cnd rfl ?_ ?_
        · intro h9
          replace h9 := of_decide_eq_true h9
          refine Tr.skip ?_
          refine End.nxt ?_
          refine Tr.seq ?_
          refine Tr.blk ?_
          refine Tr.draw 14 mixed (by kernel_rfl) ?_
          have hf := (mem_mapsL v cn).1 (nth_mem (xs := (mapsL o o)) (i := i) (by omega))
          have hfln := hf.len
          refine RunD.op (ok_move rfl (fun _ => rfl)) rfl rfl ?_
          refine RunD.op (ok_move rfl (fun _ => rfl)) rfl rfl ?_
          refine RunD.op (ok_move rfl (fun _ => rfl)) rfl rfl ?_
          refine RunD.op (ok_move rfl (fun _ => rfl)) rfl rfl ?_
          first | refine RunD.op (ok_idxEN rfl (fun _ => rfl) rfl (fun _ => rfl) (fun _ => by omega)) rfl rfl ?_ | refine RunD.op (ok_idxE rfl (fun _ => rfl) rfl (fun _ => rfl) (fun _ => by omega)) rfl rfl ?_
          refine RunD.op (ok_ldE rfl (fun _ => rfl) rfl rfl rfl) rfl rfl ?_
          refine RunD.op (ok_move rfl (fun _ => rfl)) rfl rfl ?_
          refine RunD.op (ok_move rfl (fun _ => rfl)) rfl rfl ?_
          first | refine RunD.op (ok_idxN rfl (fun _ => rfl) rfl (fun _ => rfl) rfl (fun _ => by omega)) rfl rfl ?_ | refine RunD.op (ok_idxP rfl (fun _ => rfl) rfl (fun _ => rfl) rfl (fun _ => by omega)) rfl rfl ?_
          refine RunD.op (ok_ldP rfl (fun _ => rfl) rfl) rfl rfl ?_
          refine RunD.op (ok_move rfl (fun _ => rfl)) rfl rfl ?_
          first | refine RunD.op (ok_idxN rfl (fun _ => rfl) rfl (fun _ => rfl) rfl (fun _ => by omega)) rfl rfl ?_ | refine RunD.op (ok_idxP rfl (fun _ => rfl) rfl (fun _ => rfl) rfl (fun _ => by omega)) rfl rfl ?_
          refine RunD.op (ok_ldP rfl (fun _ => rfl) rfl) rfl rfl ?_
          refine RunD.op (ok_min rfl (fun _ => rfl) rfl (fun _ => rfl)) rfl rfl ?_
          refine RunD.z ?_
          first | refine TrL.op (ok_idxEN rfl (fun _ => rfl) rfl (fun _ => rfl) (fun _ => by omega)) rfl rfl ?_ | refine TrL.op (ok_idxE rfl (fun _ => rfl) rfl (fun _ => rfl) (fun _ => by omega)) rfl rfl ?_
          refine TrL.stE rfl rfl rfl rfl rfl ?_
          refine TrL.fin ?_
          refine End.blk ?_
          refine End.nxt ?_
          refine Tr.rg ?_
          refine TrL.op (ok_move rfl (fun _ => rfl)) rfl rfl ?_
          refine TrL.op (ok_add rfl (fun _ => rfl) rfl (fun _ => rfl) (fun _ => by omega)) rfl rfl ?_
          refine TrL.op (ok_assign rfl (fun _ => rfl)) rfl rfl ?_
          refine TrL.fin ?_
          exact End.lp (i + 1) (by first | rfl | omega | (simp; done) | (simp; omega) | assumption) (by omega) (Ent.mk (.i rfl (by first | rfl | omega | (simp; done) | (simp; omega) | assumption) <| .k rfl rfl <| .k rfl rfl <| .k rfl rfl <| .k rfl rfl <| .k rfl rfl <| .k rfl rfl <| .nil) (.a (lst_step (by omega)) (by first | rfl | omega | (simp; done) | (simp; omega) | assumption) <| .k rfl <| .k rfl <| .k rfl <| .nil) rfl)
        · intro h9
          replace h9 := Int.not_lt.1 (of_decide_eq_false h9)
          refine Tr.exit ?_
          refine Exs.thn ?_
          refine Exs.thn ?_
          refine Exs.here ?_
          exact End.cut (i) (by omega) (Ent.mk (.i rfl (by first | rfl | omega | (simp; done) | (simp; omega) | assumption) <| .k rfl rfl <| .k rfl rfl <| .k rfl rfl <| .k rfl rfl <| .k rfl rfl <| .k rfl rfl <| .nil) (.a (by first | rfl | omega | (simp; done) | (simp; omega) | assumption) (by first | rfl | omega | (simp; done) | (simp; omega) | assumption) <| .k rfl <| .k rfl <| .k rfl <| .nil) rfl)
      · rintro _ rfl
        refine End.norm (S' := [⟨8, true, _, _⟩, ⟨1, true, _, _⟩, ⟨2, true, _, _⟩, ⟨4, true, _, _⟩, ⟨5, true, _, _⟩, ⟨6, true, _, _⟩, ⟨7, true, _, _⟩]) (M' := [⟨18, _, _⟩, ⟨1, _, _⟩, ⟨2, _, _⟩, ⟨6, _, _⟩]) rfl rfl ?_
        refine End.nxt ?_
        refine Tr.seq ?_
        refine Tr.rg ?_
        refine TrL.op (ok_move rfl (fun _ => rfl)) rfl rfl ?_
        refine TrL.op (ok_move rfl (fun _ => rfl)) rfl rfl ?_
        first | refine TrL.op (ok_idxEN rfl (fun _ => rfl) rfl (fun _ => rfl) (fun _ => by omega)) rfl rfl ?_ | refine TrL.op (ok_idxE rfl (fun _ => rfl) rfl (fun _ => rfl) (fun _ => by omega)) rfl rfl ?_
        refine TrL.op (ok_ldE rfl (fun _ => rfl) rfl rfl rfl) rfl rfl ?_
        refine TrL.op (ok_move rfl (fun _ => rfl)) rfl rfl ?_
        refine TrL.op (ok_eql rfl (fun _ => rfl) rfl (fun _ => rfl)) rfl rfl ?_
        refine TrL.fin ?_
        refine End.nxt ?_
        refine Tr.cnd rfl ?_ ?_
        · intro h12
          have hmn : mnO o k = k := (lst_get (by omega)).symm.trans (of_decide_eq_true h12)
          refine Tr.rg ?_
          refine TrL.op (ok_move rfl (fun _ => rfl)) rfl rfl ?_
          refine TrL.op (ok_move rfl (fun _ => rfl)) rfl rfl ?_
          refine TrL.new (ok_bsl eI 58 (fun hp => .cons rfl <| .nil) rfl rfl rfl rfl) rfl rfl rfl rfl ?_
          refine TrL.app rfl rfl rfl rfl rfl rfl rfl rfl (by first | omega | (simp only [List.length_cons, List.length_nil]; omega)) (by first | omega | (simp only [List.length_cons, List.length_nil]; omega)) ?_
          refine TrL.norm (S' := [⟨_, _, _, _⟩, ⟨_, _, _, _⟩, ⟨_, _, _, _⟩, ⟨_, _, _, _⟩, ⟨_, _, _, _⟩, ⟨_, _, _, _⟩, ⟨_, _, _, _⟩, ⟨_, _, _, _⟩, ⟨_, _, _, _⟩, ⟨_, _, _, _⟩, ⟨_, _, _, _⟩, ⟨_, _, _, _⟩, ⟨_, _, _, _⟩, ⟨_, _, _, _⟩, ⟨_, _, _, _⟩, ⟨_, _, _, _⟩, ⟨_, _, _, _⟩]) rfl rfl ?_
          refine TrL.op (ok_assign rfl (fun _ => rfl)) rfl rfl ?_
          refine TrL.fin ?_
          refine End.blk ?_
          refine End.nxt ?_
          refine Tr.rg ?_
          refine TrL.op (ok_move rfl (fun _ => rfl)) rfl rfl ?_
          refine TrL.op (ok_add rfl (fun _ => rfl) rfl (fun _ => rfl) (fun _ => by omega)) rfl rfl ?_
          refine TrL.op (ok_assign rfl (fun _ => rfl)) rfl rfl ?_
          refine TrL.fin ?_
          exact End.lp (k + 1) (by first | rfl | omega | (simp; done) | (simp; omega) | assumption) (by omega) (Ent.mk (.o rfl (by rw [frs_yes hmn, List.length_append, List.length_singleton]) rfl <| .i rfl (by first | rfl | omega | (simp; done) | (simp; omega) | assumption) <| .k rfl rfl <| .k rfl rfl <| .k rfl rfl <| .k rfl rfl <| .nil) (.a (by rw [frs_yes hmn]) (by rw [frs_yes hmn, List.length_append, List.length_singleton]) <| .a (by unfold lstTo; rw [← fillTo_succ]; rfl) (by first | rfl | omega | (simp; done) | (simp; omega) | assumption) <| .k rfl <| .k rfl <| .nil) rfl)
        · intro h12
          have hne : mnO o k ≠ k := fun e => of_decide_eq_false h12 ((lst_get (by omega)).trans e)
          refine Tr.skip ?_
          refine End.blk ?_
          refine End.nxt ?_
          refine Tr.rg ?_
          refine TrL.op (ok_move rfl (fun _ => rfl)) rfl rfl ?_
          refine TrL.op (ok_add rfl (fun _ => rfl) rfl (fun _ => rfl) (fun _ => by omega)) rfl rfl ?_
          refine TrL.op (ok_assign rfl (fun _ => rfl)) rfl rfl ?_
          refine TrL.fin ?_
          exact End.lp (k + 1) (by first | rfl | omega | (simp; done) | (simp; omega) | assumption) (by omega) (Ent.mk (.o rfl (by rw [frs_no hne]) rfl <| .i rfl (by first | rfl | omega | (simp; done) | (simp; omega) | assumption) <| .k rfl rfl <| .k rfl rfl <| .k rfl rfl <| .k rfl rfl <| .nil) (.a (by rw [frs_no hne]) (by rw [frs_no hne]) <| .a (by unfold lstTo; rw [← fillTo_succ]; rfl) (by first | rfl | omega | (simp; done) | (simp; omega) | assumption) <| .k rfl <| .k rfl <| .nil) rfl)
    · intro h5
      replace h5 := Int.not_lt.1 (of_decide_eq_false h5)
      refine Tr.exit ?_
      refine Exs.thn ?_
      refine Exs.thn ?_
      refine Exs.here ?_
      exact End.cut (k) (by omega) (Ent.mk (.o rfl (by first | rfl | omega | (simp; done) | (simp; omega) | assumption) rfl <| .i rfl (by first | rfl | omega | (simp; done) | (simp; omega) | assumption) <| .k rfl rfl <| .k rfl rfl <| .k rfl rfl <| .k rfl rfl <| .nil) (.a (by first | rfl | omega | (simp; done) | (simp; omega) | assumption) (by first | rfl | omega | (simp; done) | (simp; omega) | assumption) <| .a (by first | rfl | omega | (simp; done) | (simp; omega) | assumption) (by first | rfl | omega | (simp; done) | (simp; omega) | assumption) <| .k rfl <| .k rfl <| .nil) rfl)
  · rintro _ rfl
    refine End.norm (S' := [⟨6, true, _, _⟩, ⟨7, true, _, _⟩, ⟨1, true, _, _⟩, ⟨2, true, _, _⟩, ⟨4, true, _, _⟩, ⟨5, true, _, _⟩]) (M' := [⟨6, _, _⟩, ⟨18, _, _⟩, ⟨1, _, _⟩, ⟨2, _, _⟩]) rfl rfl ?_
    have hfl := frs_len (o := o) (k := o.1.length)
    have hll := lstTo_len (o := o) (k := o.1.length)
    refine End.nxt ?_
    refine Tr.seq ?_
    refine Tr.rg ?_
    refine TrL.op (ok_assign rfl (fun _ => rfl)) rfl rfl ?_
    refine TrL.frz 6 [6] ⟨rfl, trivial⟩ (by simp only [lenMax]; omega) rfl ?_
    refine TrL.norm (S' := [⟨_, _, _, _⟩, ⟨_, _, _, _⟩, ⟨_, _, _, _⟩, ⟨_, _, _, _⟩, ⟨_, _, _, _⟩, ⟨_, _, _, _⟩, ⟨_, _, _, _⟩, ⟨_, _, _, _⟩]) rfl rfl ?_
    refine TrL.fin ?_
    refine End.nxt ?_
    refine Tr.seq ?_
    refine Tr.seq ?_
    refine Tr.rg ?_
    refine TrL.op (ok_assign rfl (fun _ => rfl)) rfl rfl ?_
    refine TrL.fin ?_
    refine End.nxt ?_
    refine Tr.grow (s := 9) rfl rfl 9 rfl 3 eI rfl ?_
    refine Tr.for1 (σ := Nat) [⟨1, true, _, _⟩, ⟨2, true, _, _⟩, ⟨5, true, _, _⟩, ⟨6, true, _, _⟩] [⟨1, _, _⟩, ⟨2, _, _⟩, ⟨18, _, _⟩] (fun i => [⟨10, true, [], kI (i : Int)⟩, ⟨9, true, [9], kOsl 9 i⟩]) (fun i => [⟨9, [], cArr true 3 eI (tab i (clsF o)) i⟩]) (fun i => i ≤ o.1.length) (fun i => i = o.1.length) (fun i => o.1.length - i) (0) (Nat.zero_le _) (Ent.mk (.i rfl (by first | rfl | omega | (simp; done) | (simp; omega) | assumption) <| .o rfl (by first | rfl | omega | (simp; done) | (simp; omega) | assumption) rfl <| .k rfl rfl <| .k rfl rfl <| .k rfl rfl <| .k rfl rfl <| .nil) (.a (by rfl) (by first | rfl | omega | (simp; done) | (simp; omega) | assumption) <| .k rfl <| .k rfl <| .k rfl <| .nil) rfl) ?_ ?_
    · intro i hR2
      refine Tr.norm (S' := [⟨10, true, _, _⟩, ⟨9, true, _, _⟩, ⟨1, true, _, _⟩, ⟨2, true, _, _⟩, ⟨5, true, _, _⟩, ⟨6, true, _, _⟩]) (M' := [⟨9, _, _⟩, ⟨1, _, _⟩, ⟨2, _, _⟩, ⟨18, _, _⟩]) rfl rfl ?_
      have hlg : i < o.1.length → nth (lstTo o o.1.length) i = mnO o i := fun h => by unfold lstTo; rw [nth_fillTo h, if_pos h]
      refine Tr.seq ?_
      refine Tr.seq ?_
      refine Tr.rg ?_
      refine TrL.op (ok_move rfl (fun _ => rfl)) rfl rfl ?_
      refine TrL.op (ok_ldBS rfl (fun _ => rfl)) rfl rfl ?_
      refine TrL.op (ok_call (fun hp => ct_rSize _) (.s rfl (fun _ => rfl) rfl <| .nil)) rfl rfl ?_
      refine TrL.op (ok_lss rfl (fun _ => rfl) rfl (fun _ => rfl)) rfl rfl ?_
      refine TrL.fin ?_
      refine End.nxt ?_
      refine Tr.cnd rfl ?_ ?_
      · intro h16
        replace h16 := of_decide_eq_true h16
        refine Tr.skip ?_
        refine End.nxt ?_
        refine Tr.seq ?_
        refine Tr.blk ?_
        refine Tr.rg ?_
        refine TrL.op (ok_move rfl (fun _ => rfl)) rfl rfl ?_
        refine TrL.op (ok_move rfl (fun _ => rfl)) rfl rfl ?_
        refine TrL.op (ok_move rfl (fun _ => rfl)) rfl rfl ?_
        refine TrL.op (ok_move rfl (fun _ => rfl)) rfl rfl ?_
        first | refine TrL.op (ok_idxEN rfl (fun _ => rfl) rfl (fun _ => rfl) (fun _ => by omega)) rfl rfl ?_ | refine TrL.op (ok_idxE rfl (fun _ => rfl) rfl (fun _ => rfl) (fun _ => by omega)) rfl rfl ?_
        refine TrL.op (ok_ldE rfl (fun _ => rfl) rfl rfl rfl) rfl rfl ?_
        refine TrL.op (ok_call (fun hp => ct_rAt _ _) (.a rfl (fun _ => rfl) <| .a rfl (fun _ => rfl) <| .nil)) rfl rfl ?_
        refine TrL.new (ok_bsl eI 73 (fun hp => .cons rfl <| .nil) rfl rfl rfl rfl) rfl rfl rfl rfl ?_
        refine TrL.app rfl rfl rfl rfl rfl rfl rfl rfl (by first | omega | (simp only [List.length_cons, List.length_nil]; omega)) (by first | omega | (simp only [List.length_cons, List.length_nil]; omega)) ?_
        refine TrL.norm (S' := [⟨_, _, _, _⟩, ⟨_, _, _, _⟩, ⟨_, _, _, _⟩, ⟨_, _, _, _⟩, ⟨_, _, _, _⟩, ⟨_, _, _, _⟩, ⟨_, _, _, _⟩, ⟨_, _, _, _⟩, ⟨_, _, _, _⟩, ⟨_, _, _, _⟩, ⟨_, _, _, _⟩, ⟨_, _, _, _⟩, ⟨_, _, _, _⟩, ⟨_, _, _, _⟩, ⟨_, _, _, _⟩, ⟨_, _, _, _⟩, ⟨_, _, _, _⟩, ⟨_, _, _, _⟩, ⟨_, _, _, _⟩]) rfl rfl ?_
        refine TrL.op (ok_assign rfl (fun _ => rfl)) rfl rfl ?_
        refine TrL.fin ?_
        refine End.blk ?_
        refine End.nxt ?_
        refine Tr.rg ?_
        refine TrL.op (ok_move rfl (fun _ => rfl)) rfl rfl ?_
        refine TrL.op (ok_add rfl (fun _ => rfl) rfl (fun _ => rfl) (fun _ => by omega)) rfl rfl ?_
        refine TrL.op (ok_assign rfl (fun _ => rfl)) rfl rfl ?_
        refine TrL.fin ?_
        exact End.lp (i + 1) (by first | rfl | omega | (simp; done) | (simp; omega) | assumption) (by omega) (Ent.mk (.i rfl (by first | rfl | omega | (simp; done) | (simp; omega) | assumption) <| .o rfl (by first | rfl | omega | (simp; done) | (simp; omega) | assumption) rfl <| .k rfl rfl <| .k rfl rfl <| .k rfl rfl <| .k rfl rfl <| .nil) (.a (by rw [tab_succ, hlg (by omega)]; rfl) (by first | rfl | omega | (simp; done) | (simp; omega) | assumption) <| .k rfl <| .k rfl <| .k rfl <| .nil) rfl)
      · intro h16
        replace h16 := Int.not_lt.1 (of_decide_eq_false h16)
        refine Tr.exit ?_
        refine Exs.thn ?_
        refine Exs.thn ?_
        refine Exs.here ?_
        exact End.cut (i) (by omega) (Ent.mk (.i rfl (by first | rfl | omega | (simp; done) | (simp; omega) | assumption) <| .o rfl (by first | rfl | omega | (simp; done) | (simp; omega) | assumption) rfl <| .k rfl rfl <| .k rfl rfl <| .k rfl rfl <| .k rfl rfl <| .nil) (.a (by first | rfl | omega | (simp; done) | (simp; omega) | assumption) (by first | rfl | omega | (simp; done) | (simp; omega) | assumption) <| .k rfl <| .k rfl <| .k rfl <| .nil) rfl)
    · rintro _ rfl
      refine End.norm (S' := [⟨10, true, _, _⟩, ⟨9, true, _, _⟩, ⟨1, true, _, _⟩, ⟨2, true, _, _⟩, ⟨5, true, _, _⟩, ⟨6, true, _, _⟩]) (M' := [⟨9, _, _⟩, ⟨1, _, _⟩, ⟨2, _, _⟩, ⟨18, _, _⟩]) rfl rfl ?_
      refine End.nxt ?_
      refine Tr.seq ?_
      refine Tr.rg ?_
      refine TrL.new (ok_alloc 11) rfl rfl rfl rfl ?_
      refine TrL.fin ?_
      refine End.nxt ?_
      refine Tr.seq ?_
      refine Tr.seq ?_
      refine Tr.rg ?_
      refine TrL.op (ok_assign rfl (fun _ => rfl)) rfl rfl ?_
      refine TrL.fin ?_
      refine End.nxt ?_
      refine Tr.growC 11 0 121 rfl (ks' := [kOsl 121 0, _]) rfl rfl 3 eI rfl (.cons inferInstance rfl <| .cons inferInstance rfl <| inferInstance) ?_
      refine Tr.growC 11 1 122 rfl (ks' := [_, kOsl 122 0]) rfl rfl 3 eI rfl (.cons inferInstance rfl <| .cons inferInstance rfl <| inferInstance) ?_
      refine Tr.for1 (σ := Nat) [⟨1, true, _, _⟩, ⟨2, true, _, _⟩, ⟨6, true, _, _⟩, ⟨9, true, _, _⟩, ⟨11, true, _, _⟩] [⟨1, _, _⟩, ⟨2, _, _⟩, ⟨9, _, _⟩] (fun i => [⟨12, true, [], kI (i : Int)⟩]) (fun i => [⟨121, [], cArr true 3 eI (tab i (quoF o o.1)) i⟩, ⟨122, [], cArr true 3 eI (tab i (quoF o o.2)) i⟩, ⟨11, [121, 122], cBlk [kOsl 121 i, kOsl 122 i]⟩]) (fun i => i ≤ (frs o o.1.length).length) (fun i => i = (frs o o.1.length).length) (fun i => (frs o o.1.length).length - i) (0) (Nat.zero_le _) (Ent.mk (.i rfl (by first | rfl | omega | (simp; done) | (simp; omega) | assumption) <| .k rfl rfl <| .k rfl rfl <| .k rfl rfl <| .k rfl rfl <| .k rfl rfl <| .nil) (.a (by rfl) (by first | rfl | omega | (simp; done) | (simp; omega) | assumption) <| .a (by rfl) (by first | rfl | omega | (simp; done) | (simp; omega) | assumption) <| .e (by rfl) rfl <| .k rfl <| .k rfl <| .k rfl <| .nil) rfl) ?_ ?_
      · intro i hR3
        refine Tr.norm (S' := [⟨12, true, _, _⟩, ⟨1, true, _, _⟩, ⟨2, true, _, _⟩, ⟨6, true, _, _⟩, ⟨9, true, _, _⟩, ⟨11, true, _, _⟩]) (M' := [⟨121, _, _⟩, ⟨122, _, _⟩, ⟨11, _, _⟩, ⟨1, _, _⟩, ⟨2, _, _⟩, ⟨9, _, _⟩]) rfl rfl ?_
        refine Tr.seq ?_
        refine Tr.seq ?_
        refine Tr.rg ?_
        refine TrL.op (ok_move rfl (fun _ => rfl)) rfl rfl ?_
        refine TrL.op (ok_move rfl (fun _ => rfl)) rfl rfl ?_
        refine TrL.op (ok_lenJ rfl (fun _ => rfl)) rfl rfl ?_
        refine TrL.op (ok_lss rfl (fun _ => rfl) rfl (fun _ => rfl)) rfl rfl ?_
        refine TrL.fin ?_
        refine End.nxt ?_
        refine Tr.cnd rfl ?_ ?_
        · intro h21
          replace h21 := of_decide_eq_true h21
          refine Tr.skip ?_
          refine End.nxt ?_
          refine Tr.seq ?_
          refine Tr.blk ?_
          refine Tr.seq ?_
          refine Tr.draw 14 mixed (by kernel_rfl) ?_
          have hfr := cls_frs (o := o) (i := i) (by omega)
          have q0 := hfr.1.1
          have q1 := hfr.1.2
          have a1 : 0 ≤ nth o.1 (nth (frs o o.1.length) i).toNat ∧ nth o.1 (nth (frs o o.1.length) i).toNat < o.1.length := v.pR.aps hfr.1
          have a2 : 0 ≤ nth o.2 (nth (frs o o.1.length) i).toNat ∧ nth o.2 (nth (frs o o.1.length) i).toNat < o.1.length := v.pU.aps hfr.1
          have hcl := clsTo_len (o := o) (k := o.1.length)
          refine RunD.op (ok_fldO rfl (fun _ => rfl)) rfl rfl ?_
          refine RunD.op (ok_ldB rfl (fun _ => rfl) rfl) rfl rfl ?_
          refine RunD.op (ok_move rfl (fun _ => rfl)) rfl rfl ?_
          refine RunD.op (ok_fldO rfl (fun _ => rfl)) rfl rfl ?_
          refine RunD.op (ok_ldB rfl (fun _ => rfl) rfl) rfl rfl ?_
          refine RunD.op (ok_move rfl (fun _ => rfl)) rfl rfl ?_
          refine RunD.op (ok_move rfl (fun _ => rfl)) rfl rfl ?_
          first | refine RunD.op (ok_idxN rfl (fun _ => rfl) rfl (fun _ => rfl) rfl (fun _ => by omega)) rfl rfl ?_ | refine RunD.op (ok_idxP rfl (fun _ => rfl) rfl (fun _ => rfl) rfl (fun _ => by omega)) rfl rfl ?_
          refine RunD.op (ok_ldP rfl (fun _ => rfl) rfl) rfl rfl ?_
          first | refine RunD.op (ok_idxN rfl (fun _ => rfl) rfl (fun _ => rfl) rfl (fun _ => by omega)) rfl rfl ?_ | refine RunD.op (ok_idxP rfl (fun _ => rfl) rfl (fun _ => rfl) rfl (fun _ => by omega)) rfl rfl ?_
          refine RunD.op (ok_ldP rfl (fun _ => rfl) rfl) rfl rfl ?_
          first | refine RunD.op (ok_idxEN rfl (fun _ => rfl) rfl (fun _ => rfl) (fun _ => by omega)) rfl rfl ?_ | refine RunD.op (ok_idxE rfl (fun _ => rfl) rfl (fun _ => rfl) (fun _ => by omega)) rfl rfl ?_
          refine RunD.op (ok_ldE rfl (fun _ => rfl) rfl rfl rfl) rfl rfl ?_
          refine RunD.new (ok_bsl eI 94 (fun hp => .cons rfl <| .nil) rfl rfl rfl rfl) rfl rfl rfl rfl ?_
          refine RunD.z ?_
          refine TrL.wkC 11 (.any <| .k <| .nil) rfl ?_
          refine TrL.app rfl rfl rfl rfl rfl rfl rfl rfl (by first | omega | (simp only [List.length_cons, List.length_nil]; omega)) (by first | omega | (simp only [List.length_cons, List.length_nil]; omega)) ?_
          refine TrL.norm (S' := [⟨_, _, _, _⟩, ⟨_, _, _, _⟩, ⟨_, _, _, _⟩, ⟨_, _, _, _⟩, ⟨_, _, _, _⟩, ⟨_, _, _, _⟩, ⟨_, _, _, _⟩, ⟨_, _, _, _⟩, ⟨_, _, _, _⟩, ⟨_, _, _, _⟩, ⟨_, _, _, _⟩, ⟨_, _, _, _⟩, ⟨_, _, _, _⟩, ⟨_, _, _, _⟩, ⟨_, _, _, _⟩, ⟨_, _, _, _⟩, ⟨_, _, _, _⟩, ⟨_, _, _, _⟩, ⟨_, _, _, _⟩, ⟨_, _, _, _⟩, ⟨_, _, _, _⟩, ⟨_, _, _, _⟩, ⟨_, _, _, _⟩, ⟨_, _, _, _⟩, ⟨_, _, _, _⟩]) rfl rfl ?_
          refine TrL.op (ok_fldO rfl (fun _ => rfl)) rfl rfl ?_
          refine TrL.stB rfl rfl rfl rfl ?_
          refine TrL.fin ?_
          refine End.nxt ?_
          refine Tr.draw 14 mixed (by kernel_rfl) ?_
          refine RunD.op (ok_fldO rfl (fun _ => rfl)) rfl rfl ?_
          refine RunD.op (ok_ldB rfl (fun _ => rfl) rfl) rfl rfl ?_
          refine RunD.op (ok_move rfl (fun _ => rfl)) rfl rfl ?_
          refine RunD.op (ok_fldO rfl (fun _ => rfl)) rfl rfl ?_
          refine RunD.op (ok_ldB rfl (fun _ => rfl) rfl) rfl rfl ?_
          refine RunD.op (ok_move rfl (fun _ => rfl)) rfl rfl ?_
          refine RunD.op (ok_move rfl (fun _ => rfl)) rfl rfl ?_
          first | refine RunD.op (ok_idxN rfl (fun _ => rfl) rfl (fun _ => rfl) rfl (fun _ => by omega)) rfl rfl ?_ | refine RunD.op (ok_idxP rfl (fun _ => rfl) rfl (fun _ => rfl) rfl (fun _ => by omega)) rfl rfl ?_
          refine RunD.op (ok_ldP rfl (fun _ => rfl) rfl) rfl rfl ?_
          first | refine RunD.op (ok_idxN rfl (fun _ => rfl) rfl (fun _ => rfl) rfl (fun _ => by omega)) rfl rfl ?_ | refine RunD.op (ok_idxP rfl (fun _ => rfl) rfl (fun _ => rfl) rfl (fun _ => by omega)) rfl rfl ?_
          refine RunD.op (ok_ldP rfl (fun _ => rfl) rfl) rfl rfl ?_
          first | refine RunD.op (ok_idxEN rfl (fun _ => rfl) rfl (fun _ => rfl) (fun _ => by omega)) rfl rfl ?_ | refine RunD.op (ok_idxE rfl (fun _ => rfl) rfl (fun _ => rfl) (fun _ => by omega)) rfl rfl ?_
          refine RunD.op (ok_ldE rfl (fun _ => rfl) rfl rfl rfl) rfl rfl ?_
          refine RunD.new (ok_bsl eI 110 (fun hp => .cons rfl <| .nil) rfl rfl rfl rfl) rfl rfl rfl rfl ?_
          refine RunD.z ?_
          refine TrL.wkC 11 (.k <| .any <| .nil) rfl ?_
          refine TrL.app rfl rfl rfl rfl rfl rfl rfl rfl (by first | omega | (simp only [List.length_cons, List.length_nil]; omega)) (by first | omega | (simp only [List.length_cons, List.length_nil]; omega)) ?_
          refine TrL.norm (S' := ⟨_, _, _, _⟩ :: ⟨_, _, _, _⟩ :: ⟨_, _, _, _⟩ :: ⟨_, _, _, _⟩ :: ⟨_, _, _, _⟩ :: ⟨_, _, _, _⟩ :: ⟨_, _, _, _⟩ :: ⟨_, _, _, _⟩ :: ⟨_, _, _, _⟩ :: ⟨_, _, _, _⟩ :: ⟨_, _, _, _⟩ :: ⟨_, _, _, _⟩ :: ⟨_, _, _, _⟩ :: ⟨_, _, _, _⟩ :: ⟨_, _, _, _⟩ :: ⟨_, _, _, _⟩ :: ⟨_, _, _, _⟩ :: ⟨_, _, _, _⟩ :: ⟨_, _, _, _⟩ :: ⟨_, _, _, _⟩ :: ⟨_, _, _, _⟩ :: ⟨_, _, _, _⟩ :: ⟨_, _, _, _⟩ :: ⟨_, _, _, _⟩ :: ⟨_, _, _, _⟩ :: ⟨_, _, _, _⟩ :: ⟨_, _, _, _⟩ :: ⟨_, _, _, _⟩ :: ⟨_, _, _, _⟩ :: ⟨_, _, _, _⟩ :: ⟨_, _, _, _⟩ :: ⟨_, _, _, _⟩ :: ⟨_, _, _, _⟩ :: ⟨_, _, _, _⟩ :: ⟨_, _, _, _⟩ :: ⟨_, _, _, _⟩ :: ⟨_, _, _, _⟩ :: ⟨_, _, _, _⟩ :: ⟨_, _, _, _⟩ :: ⟨_, _, _, _⟩ :: ⟨_, _, _, _⟩ :: []) rfl rfl ?_
          refine TrL.op (ok_fldO rfl (fun _ => rfl)) rfl rfl ?_
          refine TrL.stB rfl rfl rfl rfl ?_
          refine TrL.fin ?_
          refine End.blk ?_
          refine End.nxt ?_
          refine Tr.rg ?_
          refine TrL.op (ok_move rfl (fun _ => rfl)) rfl rfl ?_
          refine TrL.op (ok_add rfl (fun _ => rfl) rfl (fun _ => rfl) (fun _ => by omega)) rfl rfl ?_
          refine TrL.op (ok_assign rfl (fun _ => rfl)) rfl rfl ?_
          refine TrL.fin ?_
          exact End.lp (i + 1) (by first | rfl | omega | (simp; done) | (simp; omega) | assumption) (by omega) (Ent.mk (.i rfl (by first | rfl | omega | (simp; done) | (simp; omega) | assumption) <| .k rfl rfl <| .k rfl rfl <| .k rfl rfl <| .k rfl rfl <| .k rfl rfl <| .nil) (.a (by rw [tab_succ]; rfl) (by first | rfl | omega | (simp; done) | (simp; omega) | assumption) <| .a (by rw [tab_succ]; rfl) (by first | rfl | omega | (simp; done) | (simp; omega) | assumption) <| .e (by rfl) rfl <| .k rfl <| .k rfl <| .k rfl <| .nil) rfl)
        · intro h21
          replace h21 := Int.not_lt.1 (of_decide_eq_false h21)
          refine Tr.exit ?_
          refine Exs.thn ?_
          refine Exs.thn ?_
          refine Exs.here ?_
          exact End.cut (i) (by omega) (Ent.mk (.i rfl (by first | rfl | omega | (simp; done) | (simp; omega) | assumption) <| .k rfl rfl <| .k rfl rfl <| .k rfl rfl <| .k rfl rfl <| .k rfl rfl <| .nil) (.a (by first | rfl | omega | (simp; done) | (simp; omega) | assumption) (by first | rfl | omega | (simp; done) | (simp; omega) | assumption) <| .a (by first | rfl | omega | (simp; done) | (simp; omega) | assumption) (by first | rfl | omega | (simp; done) | (simp; omega) | assumption) <| .k rfl <| .k rfl <| .k rfl <| .k rfl <| .nil) rfl)
      · rintro _ rfl
        refine End.norm (S' := [⟨12, true, _, _⟩, ⟨1, true, _, _⟩, ⟨2, true, _, _⟩, ⟨6, true, _, _⟩, ⟨9, true, _, _⟩, ⟨11, true, _, _⟩]) (M' := [⟨121, _, _⟩, ⟨122, _, _⟩, ⟨11, _, _⟩, ⟨1, _, _⟩, ⟨2, _, _⟩, ⟨9, _, _⟩]) rfl rfl ?_
        refine End.nxt ?_
        refine Tr.seq ?_
        refine Tr.rg ?_
        refine TrL.op (ok_ldBS rfl (fun _ => rfl)) rfl rfl ?_
        refine TrL.op (ok_move rfl (fun _ => rfl)) rfl rfl ?_
        refine TrL.stB rfl rfl rfl rfl ?_
        refine TrL.op (ok_assign rfl (fun _ => rfl)) rfl rfl ?_
        refine TrL.fin ?_
        refine End.nxt ?_
        refine Tr.ent (S' := [⟨2, true, _, _⟩, ⟨3, true, _, _⟩]) (M' := [⟨2, _, _⟩, ⟨9, _, _⟩, ⟨121, _, _⟩, ⟨122, _, _⟩]) (Ent.mk (.k rfl rfl <| .k rfl rfl <| .nil) (.k rfl <| .k rfl <| .k rfl <| .k rfl <| .nil) rfl) ?_
        refine Tr.frzC 121 2 (by simp only [lenMax]; omega) rfl rfl ?_
        refine Tr.frzC 122 2 (by simp only [lenMax]; omega) rfl rfl ?_
        refine Tr.frz 9 [3] ⟨rfl, trivial⟩ (by simp only [lenMax]; omega) rfl ?_
        refine Tr.ret ?_
        exact Rts.resC (fn := Try.f59) (ts := [3]) rfl rfl rfl (aggRd rfl (by rfl)) (.r rfl (by rfl) <| .nil)

end Go.Fl

/- Contracts: the law of automorphisms. -/
namespace Go.Fl
open Go Go.Proofs

set_option maxRecDepth 100000 in
set_option maxHeartbeats 1000000 in
theorem ct_OrigamiAutomorphisms (o : Ori) : Ct Try.prog 11 [kRd eO o] (kB true) := by
  refine Ct.mk Try.func11 rfl Try.ntmps11 rfl (fun w J => ?_)
  refine Tr.seq ?_
  refine Tr.rg ?_
  refine TrL.new (ok_box 1 rfl (fun _ => rfl) rfl) rfl rfl rfl rfl ?_
  refine TrL.op (ok_assign rfl (fun _ => rfl)) rfl rfl ?_
  refine TrL.fin ?_
  refine End.nxt ?_
  refine Tr.seq ?_
  refine Tr.seq ?_
  refine Tr.rg ?_
  refine TrL.op (ok_call (fun hp => ct_awake) (.nil)) rfl rfl ?_
  refine TrL.op (ok_not rfl (fun _ => rfl)) rfl rfl ?_
  refine TrL.fin ?_
  refine End.nxt ?_
  refine Tr.cnd rfl ?_ ?_
  · intro h1
    simp at h1
  · intro h1
    refine Tr.skip ?_
    refine End.nxt ?_
    refine Tr.seq ?_
    refine Tr.seq ?_
    refine Tr.rg ?_
    refine TrL.op (ok_ldBS rfl (fun _ => rfl)) rfl rfl ?_
    refine TrL.op (ok_call (fun hp => ct_Few _) (.s rfl (fun _ => rfl) rfl <| .nil)) rfl rfl ?_
    refine TrL.op (ok_not rfl (fun _ => rfl)) rfl rfl ?_
    refine TrL.fin ?_
    refine End.nxt ?_
    refine Tr.cnd rfl ?_ ?_
    · intro h3
      refine Tr.seq ?_
      refine Tr.rg ?_
      refine TrL.op (ok_assign rfl (fun _ => rfl)) rfl rfl ?_
      refine TrL.fin ?_
      refine End.nxt ?_
      refine Tr.ret ?_
      refine Rts.thn ?_
      exact Rts.res1 (fn := Try.f11) rfl (.b rfl (by rfl) <| .nil)
    · intro h3
      refine Tr.skip ?_
      refine End.nxt ?_
      refine Tr.seq ?_
      refine Tr.rg ?_
      refine TrL.op (ok_ldBS rfl (fun _ => rfl)) rfl rfl ?_
      refine TrL.op (ok_call (fun hp => ct_oAuto _) (.s rfl (fun _ => rfl) rfl <| .nil)) rfl rfl ?_
      refine TrL.op (ok_move rfl (fun _ => rfl)) rfl rfl ?_
      refine TrL.op (ok_ext rfl (fun _ => rfl) rfl) rfl rfl ?_
      refine TrL.op (ok_ext rfl (fun _ => rfl) rfl) rfl rfl ?_
      refine TrL.op (ok_assign rfl (fun _ => rfl)) rfl rfl ?_
      refine TrL.op (ok_assign rfl (fun _ => rfl)) rfl rfl ?_
      refine TrL.fin ?_
      refine End.nxt ?_
      refine Tr.seq ?_
      refine Tr.rg ?_
      refine TrL.op (ok_ldBS rfl (fun _ => rfl)) rfl rfl ?_
      refine TrL.op (ok_call (fun hp => ct_oQuot _) (.s rfl (fun _ => rfl) rfl <| .nil)) rfl rfl ?_
      refine TrL.op (ok_move rfl (fun _ => rfl)) rfl rfl ?_
      refine TrL.op (ok_ext rfl (fun _ => rfl) rfl) rfl rfl ?_
      refine TrL.op (ok_ext rfl (fun _ => rfl) rfl) rfl rfl ?_
      refine TrL.op (ok_ext rfl (fun _ => rfl) rfl) rfl rfl ?_
      refine TrL.new (ok_alloc 5) rfl rfl rfl rfl ?_
      refine TrL.stB rfl rfl rfl rfl ?_
      refine TrL.op (ok_assign rfl (fun _ => rfl)) rfl rfl ?_
      refine TrL.op (ok_assign rfl (fun _ => rfl)) rfl rfl ?_
      refine TrL.fin ?_
      refine End.nxt ?_
      refine Tr.seq ?_
      refine Tr.seq ?_
      refine Tr.rg ?_
      refine TrL.op (ok_ldBS rfl (fun _ => rfl)) rfl rfl ?_
      refine TrL.op (ok_call (fun hp => ct_rCheckOne _) (.s rfl (fun _ => rfl) rfl <| .nil)) rfl rfl ?_
      refine TrL.op (ok_assign rfl (fun _ => rfl)) rfl rfl ?_
      refine TrL.fin ?_
      refine End.nxt ?_
      refine Tr.seq ?_
      refine Tr.rg ?_
      refine TrL.op (ok_move rfl (fun _ => rfl)) rfl rfl ?_
      refine TrL.op (ok_neq rfl (fun _ => rfl) rfl (fun _ => rfl)) rfl rfl ?_
      refine TrL.fin ?_
      refine End.nxt ?_
      refine Tr.cnd rfl ?_ ?_
      · intro h8
        replace h8 := of_decide_eq_true h8
        refine Tr.seq ?_
        refine Tr.rg ?_
        refine TrL.op (ok_move rfl (fun _ => rfl)) rfl rfl ?_
        refine TrL.op (ok_move rfl (fun _ => rfl)) rfl rfl ?_
        refine TrL.op (ok_eql rfl (fun _ => rfl) rfl (fun _ => rfl)) rfl rfl ?_
        refine TrL.op (ok_move rfl (fun _ => rfl)) rfl rfl ?_
        refine TrL.gd rfl rfl rfl (ok_move rfl (fun _ => rfl)) rfl rfl ?_
        refine TrL.gd rfl rfl rfl (ok_move rfl (fun _ => rfl)) rfl rfl ?_
        refine TrL.gd rfl rfl rfl (ok_eql rfl id rfl id) rfl rfl ?_
        refine TrL.op (ok_and rfl (fun _ => rfl) rfl (fun hp h => gdT2 ((fun _ => rfl) hp) h)) rfl rfl ?_
        refine TrL.op (ok_move rfl (fun _ => rfl)) rfl rfl ?_
        refine TrL.gd rfl rfl rfl (ok_move rfl (fun _ => rfl)) rfl rfl ?_
        refine TrL.gd rfl rfl rfl (ok_lenJ rfl id) rfl rfl ?_
        refine TrL.gd rfl rfl rfl (ok_eql rfl id rfl (fun _ => rfl)) rfl rfl ?_
        refine TrL.op (ok_and rfl (fun _ => rfl) rfl (fun hp h => gdT2 ((fun _ => rfl) hp) h)) rfl rfl ?_
        refine TrL.op (ok_move rfl (fun _ => rfl)) rfl rfl ?_
        refine TrL.gd rfl rfl rfl (ok_ldBS rfl (fun _ => rfl)) rfl rfl ?_
        refine TrL.gd rfl rfl rfl (ok_call (fun hp => ct_nothing _) (.s rfl id rfl <| .nil)) rfl rfl ?_
        refine TrL.op (ok_and rfl (fun _ => rfl) rfl (fun hp h => gdT2 ((fun _ => rfl) hp) h)) rfl rfl ?_
        refine TrL.op (ok_move rfl (fun _ => rfl)) rfl rfl ?_
        refine TrL.gd rfl rfl rfl (ok_move rfl (fun _ => rfl)) rfl rfl ?_
        refine TrL.gd rfl rfl rfl (ok_lenJ rfl id) rfl rfl ?_
        refine TrL.gd rfl rfl rfl (ok_eql rfl id rfl (fun _ => rfl)) rfl rfl ?_
        refine TrL.op (ok_and rfl (fun _ => rfl) rfl (fun hp h => gdT2 ((fun _ => rfl) hp) h)) rfl rfl ?_
        refine TrL.op (ok_assign rfl (fun _ => rfl)) rfl rfl ?_
        refine TrL.fin ?_
        refine End.nxt ?_
        refine Tr.ret ?_
        refine Rts.thn ?_
        exact Rts.res1 (fn := Try.f11) rfl (.b rfl (by simp [h8]) <| .nil)
      · intro h8
        replace h8 := Classical.not_not.1 (of_decide_eq_false h8)
        obtain ⟨v, cn⟩ := chk1_zero h8
        have hmp := mapsL_pos v cn
        have hdv := aut_div v cn
        have hcv := quo_cover v cn
        have hv2 := v.le
        have hz : o.1.length % (mapsL o o).length = 0 := Nat.mod_eq_zero_of_dvd ⟨_, by rw [Nat.mul_comm]; exact hdv⟩
        have htm : (o.1.length : Int).tmod ((mapsL o o).length : Int) = 0 := by (rw [Int.tmod_eq_emod_of_nonneg (by omega)]; exact_mod_cast hz)
        rw [if_pos h8] at *
        refine Tr.skip ?_
        refine End.nxt ?_
        refine Tr.seq ?_
        refine Tr.rg ?_
        refine TrL.op (ok_ldBS rfl (fun _ => rfl)) rfl rfl ?_
        refine TrL.op (ok_call (fun hp => ct_rQuot _ v cn) (.s rfl (fun _ => rfl) rfl <| .nil)) rfl rfl ?_
        refine TrL.op (ok_move rfl (fun _ => rfl)) rfl rfl ?_
        refine TrL.op (ok_ext rfl (fun _ => rfl) rfl) rfl rfl ?_
        refine TrL.op (ok_ext rfl (fun _ => rfl) rfl) rfl rfl ?_
        refine TrL.new (ok_alloc 9) rfl rfl rfl rfl ?_
        refine TrL.stB rfl rfl rfl rfl ?_
        refine TrL.op (ok_assign rfl (fun _ => rfl)) rfl rfl ?_
        refine TrL.fin ?_
        refine End.nxt ?_
        refine Tr.seq ?_
        refine Tr.rg ?_
        refine TrL.op (ok_move rfl (fun _ => rfl)) rfl rfl ?_
        refine TrL.op (ok_eql rfl (fun _ => rfl) rfl (fun _ => rfl)) rfl rfl ?_
        refine TrL.op (ok_move rfl (fun _ => rfl)) rfl rfl ?_
        refine TrL.gd rfl rfl rfl (ok_move rfl (fun _ => rfl)) rfl rfl ?_
        refine TrL.gd rfl rfl rfl (ok_ldBS rfl (fun _ => rfl)) rfl rfl ?_
        refine TrL.gd rfl rfl rfl (ok_ldBS rfl (fun _ => rfl)) rfl rfl ?_
        refine TrL.gd rfl rfl rfl (ok_call (fun hp => ct_rMaps _ _ v cn v) (.s rfl id rfl <| .s rfl id rfl <| .nil)) rfl rfl ?_
        refine TrL.gd rfl rfl rfl (ok_call (fun hp => ct_Lists _ _) (.a rfl id <| .a rfl id <| .nil)) rfl rfl ?_
        refine TrL.op (ok_and rfl (fun _ => rfl) rfl (fun hp h => gdT2 ((fun _ => rfl) hp) h)) rfl rfl ?_
        refine TrL.op (ok_move rfl (fun _ => rfl)) rfl rfl ?_
        refine TrL.gd rfl rfl rfl (ok_move rfl (fun _ => rfl)) rfl rfl ?_
        refine TrL.gd rfl rfl rfl (ok_eql rfl id rfl (fun _ => rfl)) rfl rfl ?_
        refine TrL.op (ok_and rfl (fun _ => rfl) rfl (fun hp h => gdT2 ((fun _ => rfl) hp) h)) rfl rfl ?_
        refine TrL.op (ok_move rfl (fun _ => rfl)) rfl rfl ?_
        refine TrL.gd rfl rfl rfl (ok_ldBS rfl (fun _ => rfl)) rfl rfl ?_
        refine TrL.gd rfl rfl rfl (ok_ldBS rfl (fun _ => rfl)) rfl rfl ?_
        refine TrL.gd rfl rfl rfl (ok_call (fun hp => ct_rSame _ _) (.s rfl id rfl <| .s rfl id rfl <| .nil)) rfl rfl ?_
        refine TrL.op (ok_and rfl (fun _ => rfl) rfl (fun hp h => gdT2 ((fun _ => rfl) hp) h)) rfl rfl ?_
        refine TrL.op (ok_move rfl (fun _ => rfl)) rfl rfl ?_
        refine TrL.gd rfl rfl rfl (ok_move rfl (fun _ => rfl)) rfl rfl ?_
        refine TrL.gd rfl rfl rfl (ok_move rfl (fun _ => rfl)) rfl rfl ?_
        refine TrL.gd rfl rfl rfl (ok_call (fun hp => ct_Ints _ _) (.a rfl id <| .a rfl id <| .nil)) rfl rfl ?_
        refine TrL.op (ok_and rfl (fun _ => rfl) rfl (fun hp h => gdT2 ((fun _ => rfl) hp) h)) rfl rfl ?_
        refine TrL.op (ok_move rfl (fun _ => rfl)) rfl rfl ?_
        refine TrL.gd rfl rfl rfl (ok_move rfl (fun _ => rfl)) rfl rfl ?_
        refine TrL.gd rfl rfl rfl (ok_lenJ rfl id) rfl rfl ?_
        refine TrL.gd rfl rfl rfl (ok_gtr rfl id rfl (fun _ => rfl)) rfl rfl ?_
        refine TrL.op (ok_and rfl (fun _ => rfl) rfl (fun hp h => gdT2 ((fun _ => rfl) hp) h)) rfl rfl ?_
        refine TrL.op (ok_move rfl (fun _ => rfl)) rfl rfl ?_
        refine TrL.gd rfl rfl rfl (ok_ldBS rfl (fun _ => rfl)) rfl rfl ?_
        refine TrL.gd rfl rfl rfl (ok_call (fun hp => ct_rSize _) (.s rfl id rfl <| .nil)) rfl rfl ?_
        refine TrL.gd rfl rfl rfl (ok_move rfl (fun _ => rfl)) rfl rfl ?_
        refine TrL.gd rfl rfl rfl (ok_lenJ rfl id) rfl rfl ?_
        refine TrL.gd rfl rfl rfl (ok_rem rfl id rfl id (fun hp => by simp at hp; omega)) rfl rfl ?_
        refine TrL.gd rfl rfl rfl (ok_eql rfl id rfl (fun _ => rfl)) rfl rfl ?_
        refine TrL.op (ok_and rfl (fun _ => rfl) rfl (fun hp h => gdT2 ((fun _ => rfl) hp) h)) rfl rfl ?_
        refine TrL.op (ok_move rfl (fun _ => rfl)) rfl rfl ?_
        refine TrL.gd rfl rfl rfl (ok_ldBS rfl (fun _ => rfl)) rfl rfl ?_
        refine TrL.gd rfl rfl rfl (ok_ldBS rfl (fun _ => rfl)) rfl rfl ?_
        refine TrL.gd rfl rfl rfl (ok_move rfl (fun _ => rfl)) rfl rfl ?_
        refine TrL.gd rfl rfl rfl (ok_call (fun hp => ct_oCheckCovering _ _ _) (.s rfl id rfl <| .s rfl id rfl <| .a rfl id <| .nil)) rfl rfl ?_
        refine TrL.gd rfl rfl rfl (ok_eql rfl id rfl (fun _ => rfl)) rfl rfl ?_
        refine TrL.op (ok_and rfl (fun _ => rfl) rfl (fun hp h => gdT2 ((fun _ => rfl) hp) h)) rfl rfl ?_
        refine TrL.op (ok_assign rfl (fun _ => rfl)) rfl rfl ?_
        refine TrL.fin ?_
        refine End.nxt ?_
        refine Tr.ret ?_
        exact Rts.res1 (fn := Try.f11) rfl (.b rfl (by simp [h8, hmp, hcv, htm]) <| .nil)

end Go.Fl

/- THE LAW OrigamiAutomorphisms HOLDS FOR EVERY INPUT: whatever the arguments, the call returns true, and each argument reads behind it as before. Conditions: those of the given row (its listed variables as the program lays them). -/
namespace Go.Proofs.Ytphkjcmonjbpfaa
open Go Go.Fl Go.RowKit Go.ChangeShapes Go.WideShapes Go.ChangeAt

theorem rdt22 : RdT Try.prog 22 (eL eI) (ListP (okI .i64)) := RdT.slice RdT.int rfl rfl rfl
theorem rdt24t : RdT Try.prog 24 (eP (eL eI) (eP (eL eI) eU)) (AndP (ListP (okI .i64)) (AndP (ListP (okI .i64)) UnitP)) := by
  refine RdT.struct (l := [_, _]) Try.underlying24 rfl (by kernel_rfl) ?_
  refine FldT.cons rdt22 (by rfl) (by rfl) (by rfl) ?_
  refine FldT.cons rdt22 (by rfl) (by rfl) (by rfl) ?_
  exact FldT.nil
theorem rdt24 : RdT Try.prog 24 eO (fun o : Ori => ListP (okI .i64) o.1 ∧ ListP (okI .i64) o.2) := RdT.conv rdt24t (fun x => ((x.1, x.2.1) : Ori)) (fun _ _ _ h => h) (fun _ h => ⟨h.1, h.2.1⟩)
theorem own : ownKnob Try.prog.godebug = none := by kernel_rfl
set_option maxRecDepth 100000 in
theorem lifted0 (os : Os) (started : os.Started) (H : Type) (enc : TypeId × Value → H) :
    ReturnsInHanded {} Try.checked os 11 .any (fun w args => (Rows.origamiAutomorphismsSpec.pre enc Try.prog Try.f11 [] false w args ∧ True) ∧ sizedMet enc Try.prog Try.f11 (OpenSpec.ofChange Rows.origamiAutomorphismsSpec) false w args)
      (Rows.origamiAutomorphismsSpec.post enc Try.prog Try.f11 false true false false) := by
  refine returnsInHanded_of_change_and (C := Try.checked) (X := fun _ _ => True) (fun _ _ _ _ h => h) own started (by kernel_rfl) Try.func11
    (ChangeSpec.witness_shaped (enc := enc) (C := Try.checked) (os := os) (X := fun _ _ => True) false (World.laidAll Try.prog os Rows.origamiAutomorphismsRow.laid) #[.agg #[.slice none 0 0, .slice none 0 0]] 8 (World.laidAll_os _ _ _)
      (World.shaped_of_ZipB (by kernel_rfl) (by kernel_rfl)) (by kernel_rfl) (by kernel_rfl) (by kernel_rfl)
      trivial) ?_
  intro W base args ds gs before hval0 hW _ hwt hL _
  have hval : ∀ (j : Nat) t v, Try.f11.params[j]? = some t → args[j]? = some v → Value.okWide Try.prog W .any base t v := hval0
  have hpost : ∀ W', Below W.heap.size W W' → Rows.origamiAutomorphismsSpec.post enc Try.prog Try.f11 false true false false W args (.bool true) W' := fun W' hb => law_post (by kernel_rfl) (by kernel_rfl) (by kernel_rfl) hW (by kernel_rfl) rfl (fun hg => by
    subst hg
    obtain ⟨p, q, hA0, _⟩ := hW
    have hA : DataW.TrodAll enc Try.prog W 0 (fun _ => true) true Try.f11.params.toList args.toList ds p := hA0
    rw [Try.params11] at hA
    obtain ⟨v0, d0, rfl, rfl, _⟩ := trodAll_one hA
    rfl) rfl Try.underlying4 hb
  have hW0 := hW
  obtain ⟨p, q, hA0, hV, rfl, _, _⟩ := hW0
  have hA : DataW.TrodAll enc Try.prog W 0 (fun _ => true) true Try.f11.params.toList args.toList ds p := hA0
  rw [Try.params11] at hA hval hwt
  obtain ⟨rfl, rfl⟩ := trodVars_none hV
  obtain ⟨v0, d0, rfl, rfl, h0⟩ := trodAll_one hA
  have hwt' : (DataW.weightsEach Try.prog [24] [d0]).all (· ≤ reachBytes) = true := hwt
  have w0 := weights_cons hwt'
  obtain ⟨x0, k0, r0⟩ := RdT.val (by exact rdt24 : RdT Try.prog 24 eO (fun o : Ori => ListP (okI .i64) o.1 ∧ ListP (okI .i64) o.2)) rfl (hval 0 24 v0 rfl rfl) h0 w0.1
  refine Ct.law (vs := #[v0]) (ct_OrigamiAutomorphisms x0) ?_ fun W' hb => ⟨_, rfl, hpost W' hb⟩
  exact ⟨k0, trivial⟩
theorem lifted (os : Os) (started : os.Started) (H : Type) (enc : TypeId × Value → H) :
    ReturnsInHanded {} Try.checked os 11 .any (fun w args => Rows.origamiAutomorphismsSpec.pre enc Try.prog Try.f11 [] false w args ∧ sizedMet enc Try.prog Try.f11 (OpenSpec.ofChange Rows.origamiAutomorphismsSpec) false w args)
      (Rows.origamiAutomorphismsSpec.post enc Try.prog Try.f11 false true false false) := by
  have h := lifted0 os started H enc
  simp only [and_true] at h
  exact h
theorem holds : Rows.origamiAutomorphismsRow.holds Try.pinned (OpenSpec.ofChange Rows.origamiAutomorphismsSpec) :=
  OpenClaim.holds_of_wide 11 Try.f11 rfl rfl rfl rfl rfl rfl rfl ⟨rfl, rfl, rfl, rfl, rfl⟩ rfl rfl rfl rfl rfl (by kernel_rfl) Try.func11 (by kernel_rfl)
    (of_decide_eq_true (by kernel_rfl)) (by unfold Func.isWrapper; first | (rw [if_pos (by decide +kernel)]; kernel_rfl) | (rw [if_neg (by decide +kernel)]; exact ⟨rfl, rfl⟩))
    (fun os started H enc _ => lifted os started H enc)
theorem origamiAutomorphisms_holds : Rows.OrigamiAutomorphismsSaid := holds
end Go.Proofs.Ytphkjcmonjbpfaa
