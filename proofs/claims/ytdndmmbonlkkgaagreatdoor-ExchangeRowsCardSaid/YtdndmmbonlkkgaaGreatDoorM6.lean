/- THE LAW ExchangeRows HOLDS FOR EVERY INPUT: whatever the arguments, the call returns true, and each argument reads behind it as before. Conditions: those of the given row (its listed variables as the program lays them). -/
import Derived.Test.YtdndmmbonlkkgaaGreatDoorM5
import Derived.RangeFuncBox
import Derived.WalkKit
import Derived.TacticsInMore
import Derived.LoopNIn
import Derived.LoopIn
import Derived.HandedShaped
import Derived.Stop.LaidErr
import Derived.Test.YtdndmmbonlkkgaaGreatDoorTie
import Derived.Test.YtdndmmbonlkkgaaGreatDoorCards
import Derived.Test.YtdndmmbonlkkgaaGreatDoorRows

/- Contracts: numbers of a field as the package offers them. -/
namespace Go.Fl
open Go Go.Proofs
open TrL renaming op → tO
open RunD renaming op → rO

set_option maxRecDepth 100000 in
theorem ct_ngive (c : List Int) (d : Int) (hc : ∀ i, dl (nth c i) ≤ 900000) (hd : dl d ≤ 900000) : Ct Tryz.prog 116 [kRd eNu (c, d)] (kRd eNum (giveN (c, d))) := by
  refine Ct.mk Tryz.func116 rfl Tryz.ntmps116 rfl (fun w J => ?_); refine Tr.fact (s := 0) rfl (fun _ _ h => eNu_len h) (fun hl => ?_)
  have hl : c.length = 4 := hl
  refine Tr.seq (Tr.rg ?_); refine TrL.new (ok_box 1 rfl uu rfl) rfl rfl rfl rfl ?_; refine TrL.new (ok_alloc 2) rfl rfl rfl rfl ?_; refine TrL.fin (End.nxt (Tr.seq (Tr.rg ?_))); refine TrL.new (ok_alloc 3) rfl rfl rfl rfl ?_; refine TrL.fin (End.nxt (Tr.seq (Tr.rg ?_))); refine mw rfl rfl rfl ?_; refine TrL.fin (End.nxt ?_)
  refine Tr.for (σ := Nat) [⟨1, true, _, _⟩, ⟨2, true, _, _⟩, ⟨3, true, _, _⟩] [⟨1, _, _⟩, ⟨2, _, _⟩, ⟨3, _, _⟩] (fun n => [⟨4, true, [], kI (n : Int)⟩]) (fun n => []) (fun n => n ≤ 4 ∧ ∀ i, n ≤ i → i < c.length → nth c i = 0) (fun n => n ≤ 4 ∧ trimL c = c.take n) (fun n => n) (4) ⟨by omega, fun i h1 h2 => absurd h1 (by omega)⟩ (Ent.mk (.i rfl (by first | rfl | omega | simp <;> omega | assumption) <| .k rfl rfl <| .k rfl rfl <| .k rfl rfl <| .nil) (.k rfl <| .k rfl <| .k rfl <| .nil) rfl) ?_ ?_
  · rintro n ⟨hn, hz⟩
    refine Tr.norm (S' := [⟨4, true, _, _⟩, ⟨1, true, _, _⟩, ⟨2, true, _, _⟩, ⟨3, true, _, _⟩]) (M' := [⟨1, _, _⟩, ⟨2, _, _⟩, ⟨3, _, _⟩]) rfl rfl ?_; refine Tr.seq (Tr.seq (Tr.rg ?_)); refine mv rfl rfl rfl ?_; refine tO (ok_gtr rfl uu rfl uu) rfl rfl ?_; refine mv rfl rfl rfl ?_; refine TrL.gd rfl rfl rfl (ok_move rfl uu) rfl rfl ?_; refine TrL.gd rfl rfl rfl (ok_sub rfl id rfl uu (fun hp => by simp at hp; omega)) rfl rfl ?_; refine TrL.gd rfl rfl rfl (ok_fldO rfl uu) rfl rfl ?_; refine TrL.gd rfl rfl rfl (ok_idxArrO rfl id rfl id (fun hp => by simp at hp; omega)) rfl rfl ?_
    refine TrL.gd rfl rfl rfl (ok_ldW (n - 1) (fun hp => by simp at hp; omega) (fun _ => by omega) rfl id) rfl rfl ?_; refine TrL.gd rfl rfl rfl (ok_call (fun hp => ct_wsign (nth c (n - 1))) (.a rfl id <| .nil)) rfl rfl ?_; refine TrL.gd rfl rfl rfl (ok_eql rfl id rfl uu) rfl rfl ?_; refine tO (ok_and rfl uu rfl (fun hp h => gdT2 ((fun _ => rfl) hp) h)) rfl rfl ?_; refine TrL.fin (End.nxt ?_); refine Tr.cnd rfl ?_ ?_
    · intro h3
      try simp only [decide_eq_true_eq, Bool.and_eq_true] at h3
      have h3z := h3.2
      refine Tr.skip (End.nxt (Tr.blk (Tr.rg ?_))); refine mv rfl rfl rfl ?_; refine tO (ok_sub rfl uu rfl uu (fun _ => by omega)) rfl rfl ?_; refine mw rfl rfl rfl ?_; refine TrL.fin (End.blk ?_)
      exact End.lp (n - 1) ⟨by omega, fun i h2 h3 => by (by_cases e : i = n - 1; subst e; exact cmpZ_z.1 h3z; exact hz i (by omega) h3)⟩ (by omega) (Ent.mk (.i rfl (by first | rfl | omega | simp <;> omega | assumption) <| .k rfl rfl <| .k rfl rfl <| .k rfl rfl <| .nil) (.k rfl <| .k rfl <| .k rfl <| .nil) rfl)
    · intro h3
      try simp only [decide_eq_true_eq, decide_eq_false_iff_not, Bool.and_eq_false_imp] at h3
      refine Tr.exit (Exs.thn (Exs.thn (Exs.here ?_)))
      exact End.cut (n) ⟨hn, trim_take (by omega) hz (by by_cases e : n = 0; exact .inl e; exact .inr (fun e2 => h3 (by omega) (cmpZ_z.2 e2)))⟩ (Ent.mk (.i rfl (by first | rfl | omega | simp <;> omega | assumption) <| .k rfl rfl <| .k rfl rfl <| .k rfl rfl <| .nil) (.k rfl <| .k rfl <| .k rfl <| .nil) rfl)
  · rintro n ⟨hn, ht⟩
    refine Tr.norm (S' := [⟨4, true, _, _⟩, ⟨1, true, _, _⟩, ⟨2, true, _, _⟩, ⟨3, true, _, _⟩]) (M' := [⟨1, _, _⟩, ⟨2, _, _⟩, ⟨3, _, _⟩]) rfl rfl ?_
    have htk : (List.take (n : Int).toNat (tab 4 (nth (c, d).1), (c, d).2).1).length = n := by rw [Int.toNat_natCast, List.length_take]; show min n (tab 4 (nth c)).length = n; rw [tab_len]; omega
    have hnt : ∀ i, i < n → nth (List.take (n : Int).toNat (tab 4 (nth (c, d).1), (c, d).2).1) i = nth c i := fun i h => by rw [Int.toNat_natCast]; exact (nth_take' h).trans (nth_tab (by omega))
    refine Tr.seq (Tr.seq ?_); refine Tr.frzB 1 [1] eNu ⟨rfl, trivial⟩ rfl ?_; refine Tr.norm (S' := ⟨_, _, _, _⟩ :: ⟨_, _, _, _⟩ :: ⟨_, _, _, _⟩ :: ⟨_, _, _, _⟩ :: ⟨_, _, _, _⟩ :: []) (M' := [⟨_, _, _⟩, ⟨_, _, _⟩]) rfl rfl ?_; refine Tr.rg ?_; refine tO (ok_fldP rfl uu rfl) rfl rfl ?_; refine mv rfl rfl rfl ?_; refine tO (ok_slArrPh rfl uu rfl uu rfl rfl (fun _ => by omega)) rfl rfl ?_; refine tO (ok_lenJ rfl uu) rfl rfl ?_; refine mv rfl rfl rfl ?_; refine TrL.fin (End.nxt ?_); refine Tr.growC 3 0 33 rfl (ks' := [kOsl 33 0, _]) rfl rfl 22 (eL eI) rfl (.cons inferInstance rfl <| .cons inferInstance rfl <| inferInstance) ?_
    refine Tr.for1 (σ := Nat) [⟨1, true, _, _⟩, ⟨2, true, _, _⟩, ⟨3, true, _, _⟩, ⟨22, true, _, _⟩, ⟨23, true, _, _⟩] [⟨2, _, _⟩] (fun k => [⟨24, true, [], kI (k : Int)⟩]) (fun k => [⟨3, [33], cBlk [kOsl 33 k, kDet (.slice none 0 0)]⟩, ⟨33, [], cArr true 22 (eL eI) (tab k fun i => lstZ (nth c i)) k⟩]) (fun k => k ≤ n) (fun k => k = n) (fun k => n - k) (0) (by first | rfl | omega | simp <;> omega | assumption) (Ent.mk (.i rfl (by first | rfl | omega | simp <;> omega | assumption) <| .k rfl rfl <| .k rfl rfl <| .k rfl rfl <| .k rfl rfl <| .k rfl rfl <| .nil) (.e (by rfl) rfl <| .a (by rfl) (by first | rfl | omega | simp <;> omega | assumption) <| .k rfl <| .nil) rfl) ?_ ?_
    · intro k hR1
      refine Tr.norm (S' := [⟨24, true, _, _⟩, ⟨1, true, _, _⟩, ⟨2, true, _, _⟩, ⟨3, true, _, _⟩, ⟨22, true, _, _⟩, ⟨23, true, _, _⟩]) (M' := [⟨3, _, _⟩, ⟨33, _, _⟩, ⟨2, _, _⟩]) rfl rfl ?_
      have hck := hc k
      refine Tr.seq (Tr.rg ?_); refine tO (ok_lss rfl uu rfl uu) rfl rfl ?_; refine TrL.fin (End.nxt (Tr.seq ?_)); refine Tr.cnd rfl ?_ ?_
      · intro h6
        replace h6 := of_decide_eq_true h6
        refine Tr.skip (End.nxt (Tr.seq (Tr.blk (Tr.seq (Tr.rg ?_)))))
        first | refine tO (ok_idxN rfl uu rfl uu rfl (fun _ => by omega)) rfl rfl ?_ | refine tO (ok_idxP rfl uu rfl uu rfl (fun _ => by omega)) rfl rfl ?_
        refine tO (ok_ldPA rfl uu rfl rfl) rfl rfl ?_; refine TrL.new (ok_alloc 6) rfl rfl rfl rfl ?_; refine TrL.stB rfl rfl rfl rfl ?_; refine TrL.fin (End.nxt ?_); refine Tr.draw 5 mixed (by kernel_rfl) ?_; refine rO (ok_fldO rfl uu) rfl rfl ?_; refine rO (ok_ldB rfl uu rfl) rfl rfl ?_; refine rO (ok_ldBS rfl uu) rfl rfl ?_; refine rO (ok_call (fun hp => ct_wlist _ (by rw [hnt k (by omega)]; omega)) (.se rfl uu rfl rfl <| .nil)) rfl rfl ?_; refine RunD.new (ok_bsl (eL eI) 32 (fun hp => .cons rfl <| .nil) rfl rfl rfl rfl) rfl rfl rfl rfl ?_; refine RunD.z ?_; refine TrL.wkC 3 (.any <| .k <| .nil) rfl ?_
        refine TrL.app rfl rfl rfl rfl rfl rfl rfl rfl (by first | omega | (simp only [List.length_cons, List.length_nil]; omega)) (by first | omega | (simp only [List.length_cons, List.length_nil]; omega)) ?_
        refine TrL.norm (S' := [⟨_, _, _, _⟩, ⟨_, _, _, _⟩, ⟨_, _, _, _⟩, ⟨_, _, _, _⟩, ⟨_, _, _, _⟩, ⟨_, _, _, _⟩, ⟨_, _, _, _⟩, ⟨_, _, _, _⟩, ⟨_, _, _, _⟩, ⟨_, _, _, _⟩, ⟨_, _, _, _⟩, ⟨_, _, _, _⟩, ⟨_, _, _, _⟩, ⟨_, _, _, _⟩, ⟨_, _, _, _⟩, ⟨_, _, _, _⟩]) rfl rfl ?_; refine tO (ok_fldO rfl uu) rfl rfl ?_; refine TrL.stB rfl rfl rfl rfl ?_; refine TrL.fin (End.blk (End.nxt (Tr.rg ?_))); refine tO (ok_add rfl uu rfl uu (fun _ => by omega)) rfl rfl ?_; refine mv rfl rfl rfl ?_; refine TrL.fin ?_
        exact End.lp (k + 1) (by first | rfl | omega | simp <;> omega | assumption) (by omega) (Ent.mk (.i rfl (by first | rfl | omega | simp <;> omega | assumption) <| .k rfl rfl <| .k rfl rfl <| .k rfl rfl <| .k rfl rfl <| .k rfl rfl <| .nil) (.e (by rfl) rfl <| .a ((congrArg (fun z => tab k (fun i => lstZ (nth c i)) ++ [lstZ z]) (hnt k (by omega))).trans tab_succ.symm) (by first | rfl | omega | simp <;> omega | assumption) <| .k rfl <| .nil) rfl)
      · intro h6
        replace h6 := Int.not_lt.1 (of_decide_eq_false h6)
        refine Tr.exit (Exs.thn (Exs.thn (Exs.here ?_)))
        exact End.cut (k) (by omega) (Ent.mk (.i rfl (by first | rfl | omega | simp <;> omega | assumption) <| .k rfl rfl <| .k rfl rfl <| .k rfl rfl <| .k rfl rfl <| .k rfl rfl <| .nil) (.k rfl <| .k rfl <| .k rfl <| .nil) rfl)
    · rintro k hkn
      refine End.norm (S' := [⟨24, true, _, _⟩, ⟨1, true, _, _⟩, ⟨2, true, _, _⟩, ⟨3, true, _, _⟩, ⟨22, true, _, _⟩, ⟨23, true, _, _⟩]) (M' := [⟨3, _, _⟩, ⟨33, _, _⟩, ⟨2, _, _⟩]) rfl rfl ?_; refine End.nxt (Tr.seq (Tr.rg ?_)); refine tO (ok_fldP rfl uu rfl) rfl rfl ?_; refine tO (ok_ldPA rfl uu rfl rfl) rfl rfl ?_; refine tO (ok_call (fun hp => ct_wlist d (by omega)) (.a rfl uu <| .nil)) rfl rfl ?_; refine tO (ok_fldO rfl uu) rfl rfl ?_; refine TrL.stB rfl rfl rfl rfl ?_; refine TrL.fin (End.nxt (Tr.seq ?_)); refine Tr.frzC 33 3 (by simp only [lenMax]; omega) rfl rfl ?_; refine Tr.rg ?_
      refine tO (ok_ldBS rfl uu) rfl rfl ?_; refine TrL.stB rfl rfl rfl rfl ?_; refine TrL.fin (End.nxt (Tr.ret ?_)); exact Rts.resC1 (fn := Tryz.f116) rfl rfl (aggRd rfl (by rw [hkn]; exact (giveN_eq ht).resolve_right (by omega)))

set_option maxRecDepth 100000 in
theorem ct_fWhole (n : Int) (hn : -9223372036854775808 ≤ n ∧ n ≤ 9223372036854775807) : Ct Tryz.prog 117 [kI n] (kRd eNum (giveN ([n, 0, 0, 0], 1))) := by
  have hd := dl_int hn
  refine Ct.mk Tryz.func117 rfl Tryz.ntmps117 rfl (fun w J => ?_); refine Tr.seq (Tr.rg ?_); refine TrL.new (ok_alloc 2) rfl rfl rfl rfl ?_; refine TrL.fin (End.nxt (Tr.seq (Tr.rg ?_))); refine mv rfl rfl rfl ?_; refine tO (ok_call (fun hp => ct_fsmall n hn) (.a rfl uu <| .nil)) rfl rfl ?_; refine tO (ok_buildL [(0, 2), (2, 2), (4, 2), (6, 2)] rfl (fun hp => .cons rfl rfl rfl <| .nil)) rfl rfl ?_; refine tO (ok_call (fun hp => ct_fsmall 1 (by omega)) (.a rfl uu <| .nil)) rfl rfl ?_; refine tO (ok_build (fun hp => .cons rfl rfl rfl <| .cons rfl rfl rfl <| .nil)) rfl rfl ?_
  refine tO (ok_call (fun hp => ct_ngive [n, 0, 0, 0] 1 (fun i => dl_four (k := 899997) hd i) (by have := dl_int (n := 1) (by omega); omega)) (.s rfl uu rfl <| .nil)) rfl rfl ?_; refine TrL.stB rfl rfl rfl rfl ?_; refine TrL.fin (End.nxt (Tr.ret ?_))
  exact Rts.resC1 (fn := Tryz.f117) rfl rfl (aggRd rfl (by first | rfl | omega | simp <;> omega | assumption))

set_option maxRecDepth 100000 in
theorem ct_fNormalN (r : RlT) (x : NumT) (k : Nat) (hpo : PolOk r.2.1) (hx : NumOk k x) (hk : k ≤ 400000) : Ct Tryz.prog 77 [kPtr eReal r, kRd eNum x] (kRd eNum (giveN (takeN r.2.1 x))) := by
  have nx := take_NBd hpo hx
  refine Ct.mk Tryz.func77 rfl Tryz.ntmps77 rfl (fun w J => ?_); refine Tr.seq (Tr.rg ?_); refine TrL.new (ok_box 3 rfl uu rfl) rfl rfl rfl rfl ?_; refine TrL.new (ok_alloc 4) rfl rfl rfl rfl ?_; refine TrL.fin (End.nxt (Tr.seq (Tr.seq (Tr.rg ?_)))); refine mv rfl rfl rfl ?_; refine tO (ok_eqlPn rfl uu) rfl rfl ?_; refine TrL.fin (End.nxt ?_); refine Tr.cnd rfl ?_ ?_
  · intro h1
    cases h1
  · intro h1
    refine Tr.skip (End.nxt (Tr.seq (Tr.rg ?_))); refine mv rfl rfl rfl ?_; refine tO (ok_ldBS rfl uu) rfl rfl ?_; refine tO (ok_call (fun hp => ct_take r x k hpo hx (by omega)) (.a rfl uu <| .s rfl uu rfl <| .nil)) rfl rfl ?_; refine tO (ok_call (fun hp => ct_ngive (takeN r.2.1 x).1 (takeN r.2.1 x).2 (fun i => Nat.le_trans (nx.c i) (by omega)) (Nat.le_trans nx.d (by omega))) (.a rfl uu <| .nil)) rfl rfl ?_; refine TrL.stB rfl rfl rfl rfl ?_; refine TrL.fin (End.nxt (Tr.ret ?_))
    exact Rts.resC1 (fn := Tryz.f77) rfl rfl (aggRd rfl (by first | rfl | omega | simp <;> omega | assumption))

set_option maxRecDepth 100000 in
theorem ct_fAddN (r : RlT) (x y : NumT) (k : Nat) (hpo : PolOk r.2.1) (hx : NumOk k x) (hy : NumOk k y) (hk : k ≤ 100000) : Ct Tryz.prog 82 [kPtr eReal r, kRd eNum x, kRd eNum y] (kRd eNum (giveN (adV (takeN r.2.1 x) (takeN r.2.1 y)))) := by
  have nx := take_NBd hpo hx
  have ny := take_NBd hpo hy
  have nz := add_NBd nx ny
  refine Ct.mk Tryz.func82 rfl Tryz.ntmps82 rfl (fun w J => ?_); refine Tr.seq (Tr.rg ?_); refine TrL.new (ok_box 4 rfl uu rfl) rfl rfl rfl rfl ?_; refine TrL.new (ok_box 5 rfl uu rfl) rfl rfl rfl rfl ?_; refine TrL.new (ok_alloc 6) rfl rfl rfl rfl ?_; refine TrL.fin (End.nxt (Tr.seq (Tr.seq (Tr.rg ?_)))); refine mv rfl rfl rfl ?_; refine tO (ok_eqlPn rfl uu) rfl rfl ?_; refine TrL.fin (End.nxt ?_); refine Tr.cnd rfl ?_ ?_
  · intro h1
    cases h1
  · intro h1
    refine Tr.skip (End.nxt (Tr.seq ?_)); refine Tr.draw 5 mixed (by kernel_rfl) ?_; refine rO (ok_move rfl uu) rfl rfl ?_; refine rO (ok_ldBS rfl uu) rfl rfl ?_; refine rO (ok_call (fun hp => ct_take r x k hpo hx (by omega)) (.a rfl uu <| .s rfl uu rfl <| .nil)) rfl rfl ?_; refine rO (ok_move rfl uu) rfl rfl ?_; refine rO (ok_ldBS rfl uu) rfl rfl ?_; refine RunD.z ?_; refine tO (ok_call (fun hp => ct_take r y k hpo hy (by omega)) (.a rfl uu <| .s rfl uu rfl <| .nil)) rfl rfl ?_; refine tO (ok_call (fun hp => ct_nplus (takeN r.2.1 x) (takeN r.2.1 y) (fun i => Nat.le_trans (nx.c i) (by omega)) (fun i => Nat.le_trans (ny.c i) (by omega)) (Nat.le_trans nx.d (by omega)) (Nat.le_trans ny.d (by omega)) nx.pos ny.pos) (.a rfl uu <| .a rfl uu <| .nil)) rfl rfl ?_
    refine tO (ok_call (fun hp => ct_ngive (adV (takeN r.2.1 x) (takeN r.2.1 y)).1 (adV (takeN r.2.1 x) (takeN r.2.1 y)).2 (fun i => Nat.le_trans (nz.c i) (by omega)) (Nat.le_trans nz.d (by omega))) (.a rfl uu <| .nil)) rfl rfl ?_; refine TrL.stB rfl rfl rfl rfl ?_; refine TrL.fin (End.nxt (Tr.ret ?_))
    exact Rts.resC1 (fn := Tryz.f82) rfl rfl (aggRd rfl (by first | rfl | omega | simp <;> omega | assumption))

set_option maxRecDepth 100000 in
theorem ct_fSubN (r : RlT) (x y : NumT) (k : Nat) (hpo : PolOk r.2.1) (hx : NumOk k x) (hy : NumOk k y) (hk : k ≤ 100000) : Ct Tryz.prog 79 [kPtr eReal r, kRd eNum x, kRd eNum y] (kRd eNum (giveN (adV (takeN r.2.1 x) ((takeN r.2.1 y).1.map (fun z => -z), (takeN r.2.1 y).2)))) := by
  have nx := take_NBd hpo hx
  have ny := take_NBd hpo hy
  have nn := neg_NBd ny
  have nz := add_NBd nx nn
  refine Ct.mk Tryz.func79 rfl Tryz.ntmps79 rfl (fun w J => ?_); refine Tr.seq (Tr.rg ?_); refine TrL.new (ok_box 4 rfl uu rfl) rfl rfl rfl rfl ?_; refine TrL.new (ok_box 5 rfl uu rfl) rfl rfl rfl rfl ?_; refine TrL.new (ok_alloc 6) rfl rfl rfl rfl ?_; refine TrL.fin (End.nxt (Tr.seq (Tr.seq (Tr.rg ?_)))); refine mv rfl rfl rfl ?_; refine tO (ok_eqlPn rfl uu) rfl rfl ?_; refine TrL.fin (End.nxt ?_); refine Tr.cnd rfl ?_ ?_
  · intro h1
    cases h1
  · intro h1
    refine Tr.skip (End.nxt (Tr.seq ?_)); refine Tr.draw 5 mixed (by kernel_rfl) ?_; refine rO (ok_move rfl uu) rfl rfl ?_; refine rO (ok_ldBS rfl uu) rfl rfl ?_; refine rO (ok_call (fun hp => ct_take r x k hpo hx (by omega)) (.a rfl uu <| .s rfl uu rfl <| .nil)) rfl rfl ?_; refine rO (ok_move rfl uu) rfl rfl ?_; refine rO (ok_ldBS rfl uu) rfl rfl ?_; refine RunD.z ?_; refine tO (ok_call (fun hp => ct_take r y k hpo hy (by omega)) (.a rfl uu <| .s rfl uu rfl <| .nil)) rfl rfl ?_; refine tO (ok_call (fun hp => ct_nminus (takeN r.2.1 y).1 (takeN r.2.1 y).2) (.a rfl uu <| .nil)) rfl rfl ?_
    refine tO (ok_call (fun hp => ct_nplus (takeN r.2.1 x) ((takeN r.2.1 y).1.map (fun z => -z), (takeN r.2.1 y).2) (fun i => Nat.le_trans (nx.c i) (by omega)) (fun i => Nat.le_trans (nn.c i) (by omega)) (Nat.le_trans nx.d (by omega)) (Nat.le_trans nn.d (by omega)) nx.pos nn.pos) (.a rfl uu <| .a rfl uu <| .nil)) rfl rfl ?_; refine tO (ok_call (fun hp => ct_ngive (adV (takeN r.2.1 x) ((takeN r.2.1 y).1.map (fun z => -z), (takeN r.2.1 y).2)).1 (adV (takeN r.2.1 x) ((takeN r.2.1 y).1.map (fun z => -z), (takeN r.2.1 y).2)).2 (fun i => Nat.le_trans (nz.c i) (by omega)) (Nat.le_trans nz.d (by omega))) (.a rfl uu <| .nil)) rfl rfl ?_
    refine TrL.stB rfl rfl rfl rfl ?_; refine TrL.fin (End.nxt (Tr.ret ?_))
    exact Rts.resC1 (fn := Tryz.f79) rfl rfl (aggRd rfl (by first | rfl | omega | simp <;> omega | assumption))

set_option maxRecDepth 100000 in
theorem ct_fSignQ (r : RlT) (x : NumT) (k : Nat) (hpo : PolOk r.2.1) (h2 : r.2.1.length = 2) (hx : NumOk k x) (hk : k ≤ 400000) : Ct Tryz.prog 76 [kPtr eReal r, kRd eNum x] (kI (cmpZ (nth (takeN r.2.1 x).1 0) 0)) := by
  refine Ct.mk Tryz.func76 rfl Tryz.ntmps76 rfl (fun w J => ?_); refine Tr.seq (Tr.rg ?_); refine TrL.new (ok_box 3 rfl uu rfl) rfl rfl rfl rfl ?_; refine mw rfl rfl rfl ?_; refine TrL.fin (End.nxt (Tr.seq (Tr.seq (Tr.rg ?_)))); refine mv rfl rfl rfl ?_; refine tO (ok_eqlPn rfl uu) rfl rfl ?_; refine TrL.fin (End.nxt ?_); refine Tr.cnd rfl ?_ ?_
  · intro h1
    cases h1
  · intro h1
    refine Tr.skip (End.nxt (Tr.seq (Tr.rg ?_))); refine mv rfl rfl rfl ?_; refine mv rfl rfl rfl ?_; refine tO (ok_ldBS rfl uu) rfl rfl ?_; refine tO (ok_call (fun hp => ct_take r x k hpo hx (by omega)) (.a rfl uu <| .s rfl uu rfl <| .nil)) rfl rfl ?_; refine tO (ok_call (fun hp => ct_signQ r (takeN r.2.1 x).1 (takeN r.2.1 x).2 (ratB_pad h2)) (.a rfl uu <| .a rfl uu <| .nil)) rfl rfl ?_; refine mw rfl rfl rfl ?_; refine TrL.fin (End.nxt (Tr.ret ?_))
    exact Rts.res1 (fn := Tryz.f76) rfl (.i rfl (by first | rfl | omega | simp <;> omega | assumption) <| .nil)

set_option maxRecDepth 100000 in
theorem ct_fCmpQ (r : RlT) (x y : NumT) (k : Nat) (hpo : PolOk r.2.1) (hx : NumOk k x) (hy : NumOk k y) (hk : k ≤ 100000) (h2 : r.2.1.length = 2) : Ct Tryz.prog 80 [kPtr eReal r, kRd eNum x, kRd eNum y] (kI (cmpZ (nth (adV (takeN r.2.1 x) ((takeN r.2.1 y).1.map (fun z => -z), (takeN r.2.1 y).2)).1 0) 0)) := by
  have nx := take_NBd hpo hx
  have ny := take_NBd hpo hy
  have nn := neg_NBd ny
  have nz := add_NBd nx nn
  refine Ct.mk Tryz.func80 rfl Tryz.ntmps80 rfl (fun w J => ?_); refine Tr.seq (Tr.rg ?_); refine TrL.new (ok_box 4 rfl uu rfl) rfl rfl rfl rfl ?_; refine TrL.new (ok_box 5 rfl uu rfl) rfl rfl rfl rfl ?_; refine mw rfl rfl rfl ?_; refine TrL.fin (End.nxt (Tr.seq (Tr.seq (Tr.rg ?_)))); refine mv rfl rfl rfl ?_; refine tO (ok_eqlPn rfl uu) rfl rfl ?_; refine TrL.fin (End.nxt ?_); refine Tr.cnd rfl ?_ ?_
  · intro h1
    cases h1
  · intro h1
    refine Tr.skip (End.nxt (Tr.seq ?_)); refine Tr.draw 9 mixed (by kernel_rfl) ?_; refine rO (ok_move rfl uu) rfl rfl ?_; refine rO (ok_move rfl uu) rfl rfl ?_; refine rO (ok_ldBS rfl uu) rfl rfl ?_; refine rO (ok_call (fun hp => ct_take r x k hpo hx (by omega)) (.a rfl uu <| .s rfl uu rfl <| .nil)) rfl rfl ?_; refine rO (ok_move rfl uu) rfl rfl ?_; refine rO (ok_ldBS rfl uu) rfl rfl ?_; refine rO (ok_call (fun hp => ct_take r y k hpo hy (by omega)) (.a rfl uu <| .s rfl uu rfl <| .nil)) rfl rfl ?_; refine rO (ok_call (fun hp => ct_nminus (takeN r.2.1 y).1 (takeN r.2.1 y).2) (.a rfl uu <| .nil)) rfl rfl ?_
    refine rO (ok_call (fun hp => ct_nplus (takeN r.2.1 x) ((takeN r.2.1 y).1.map (fun z => -z), (takeN r.2.1 y).2) (fun i => Nat.le_trans (nx.c i) (by omega)) (fun i => Nat.le_trans (nn.c i) (by omega)) (Nat.le_trans nx.d (by omega)) (Nat.le_trans nn.d (by omega)) nx.pos nn.pos) (.a rfl uu <| .a rfl uu <| .nil)) rfl rfl ?_; refine RunD.z ?_; refine tO (ok_call (fun hp => ct_signQ r (adV (takeN r.2.1 x) ((takeN r.2.1 y).1.map (fun z => -z), (takeN r.2.1 y).2)).1 (adV (takeN r.2.1 x) ((takeN r.2.1 y).1.map (fun z => -z), (takeN r.2.1 y).2)).2 (ratB_add (ratB_pad h2) (ratB_neg (ratB_pad h2)))) (.a rfl uu <| .a rfl uu <| .nil)) rfl rfl ?_
    refine mw rfl rfl rfl ?_; refine TrL.fin (End.nxt (Tr.ret ?_))
    exact Rts.res1 (fn := Tryz.f80) rfl (.i rfl (by first | rfl | omega | simp <;> omega | assumption) <| .nil)

end Go.Fl

/- A struct of the call's own is lent by a pointer: to a call that returns what hangs on no memory, and to one that leaves it as it was. No program in sight. -/
namespace Go.Fl
open Go Go.RowKit
section
variable {P : Program} {c : Ctx} {S : Slots} {M : Conts} {p : Bool} {d : Option Tmp} {ty : TypeId} {pos : String} {af : Array Edge} {gd : Option (Nat × Bool)} {x : Operand} {b : Bool}
instance {ik : IntKind} {n : Int} : KFree (kInt ik n) := ⟨fun h => h⟩
instance {v : Bool} : KFree (kB v) := ⟨fun h => h⟩
theorem ok_lendP {f : FuncId} [hf : TyFn P f] {args : List Operand} {tys : Array TypeId} {ks : List Know} {res : Know} {u : Nat} {α : Type} {e : Enc α} {x0 x1 : α} {kc : List Know} {dep dep2 : List Nat} [hl : LkM M u (cBlk kc) dep] [hr : RdOf kc e x0 []] [hd : KsDep kc dep2] [hdn : IsNil dep2]
    (hct : p = true → Ct P f (kPtr e x1 :: ks) res) (he : x0 = x1) (hx : opK S x = some (b, kOwn u 0)) (hb : p = true → b = true) (ha : ArgsOk S p args ks) [hj : AllJ ks] [hk : KDep res []] [hfr : KFree res] :
    OpOk P c S M ⟨d, .call { callee := .value (.func f), args := (x :: args).toArray, argTypes := tys }, ty, pos, af, gd⟩ p res none := by
  subst he
  intro hp a g w hok hc ho _
  have hargs := ha.eval (g := g) (ρ := a.eval) hp (fun y hy b k hk hb => ho y (by simp [Op.operands, Call.operands, hy]) b k hk hb)
  obtain ⟨bl, cap, hm, hxv⟩ := ho x (by simp [Op.operands, Call.operands]) b _ hx (hb hp)
  obtain ⟨bk, hm2, cs, tt, h3, h4⟩ := hc _ hl.mem
  simp only at hm2 h3
  rw [hm] at hm2; cases hm2
  have h3 : w.heap[bl]? = some (.cells cs tt (0, 0)) := h3
  have hnone := (hok.own u bl cap hm).2.2
  have hJ : g.J.le (g.J.with bl cs) := JV.le_with hnone
  have him : Im (g.J.with bl cs) w := fun b o v hv => by
    unfold JV.with at hv
    by_cases e : b = bl
    · rw [if_pos e] at hv; subst e; exact cell_own h3 hv
    · rw [if_neg e] at hv; exact hok.im b o v hv
  have hrd : kPtr e x0 ⟨g.J.with bl cs, noM⟩ (a.eval x) := by
    have hk' := hd.dep (g := g) (g' := ⟨g.J.with bl cs, noM⟩) hJ (fun t ht => by rw [hdn.eq] at ht; cases ht) h4
    refine ⟨bl, 0, cs.toList, hxv, RdOf.whole (h := hr) hk', fun j v hj => ?_⟩
    show (g.J.with bl cs) bl (0 + j) = some v
    unfold JV.with
    rw [if_pos rfl, Nat.zero_add]
    simpa using hj
  have hr2 := hct hp w (g.J.with bl cs) him (a.eval x :: args.map a.eval) ⟨hrd, allK_mono hJ hj.all hargs⟩
  unfold Oper.wp
  simp only [execOp, resolve, Act.eval, Deferred.ofValue, Sem.run_bind, Sem.run_pure, Result.andThen_ok, invoke, List.map_toArray, List.map_cons, Array.append_empty, Array.empty_append]
  rw [hf.run]
  simp only [Oper.upon]
  refine hr2.mono fun e' w' he => ?_
  obtain ⟨r, J2, rfl, hbel, hJ2, hold, him2, hres⟩ := he
  have q1 : g.J.le (fun b o => if b = bl then none else J2 b o) := fun b o v hv => by
    have hne : b ≠ bl := fun e => by subst e; rw [hnone o] at hv; cases hv
    simp only [if_neg hne]
    exact hJ2 _ _ _ (hJ _ _ _ hv)
  refine ⟨r, _, rfl, Did.call hok hbel q1 (fun b o hlt => ?_) (fun b o v hv => ?_) (hfr.go (g' := ⟨_, noM⟩) hres)⟩
  · by_cases e : b = bl
    · subst e; simp only [if_true]; exact (hnone o).symm
    · simp only [if_neg e]
      rw [hold b o hlt]
      unfold JV.with
      rw [if_neg e]
  · by_cases e : b = bl
    · simp only [if_pos e] at hv; cases hv
    · simp only [if_neg e] at hv; exact him2 b o v hv
end
theorem cBlk_J {ks : List Know} {dep : List Nat} [hd : KsDep ks dep] [hn : IsNil dep] {g g' : Gh} {bk : Bk} {o : Option Obj} (hJ : g.J = g'.J) (h : cBlk ks g bk o) : cBlk ks g' bk o :=
  let ⟨cs, ty, h1, h2⟩ := h; ⟨cs, ty, h1, hd.dep (by rw [hJ]; exact JV.le_refl _) (fun t ht => by rw [hn.eq] at ht; cases ht) h2⟩
section
variable {P : Program} {n : Nat} {rd : Option Nat} {mrk : Bool} {om : List Nat} {w0 : World} {J0 : JV} {S : Slots} {M M' : Conts} {Q : Exit → Act → World → Prop} {fn : Func} {bb cap : Nat}
theorem Tr.frzBo {code : Code} (u : Nat) (ss : List Nat) {len : Nat} {α : Type} {zb : Bool} {et : TypeId} {e : Enc α} {xs : List α} {dep : List Nat} [hl : LkM M u (cArr zb et e xs len) dep] (h0 : look S 0 = some (true, kOwnAt 0 0 bb)) (hu : Nat.beq u 0 = false) (hss : allOsl S u len ss) (hlen : len ≤ lenMax) [hdel : DelM M u M'] (hnd : noDep u M = true)
    (K : Tr P ⟨w0, J0, [bb], n, rd, mrk, om⟩ (Slots.setAll ss (kRd (eL e) xs) (inv u S)) M' code Q) : Tr P ⟨w0, J0, [bb], n, rd, mrk, om⟩ S M code Q := fun a g w hs =>
  let ⟨g', hs'⟩ := hs.frzAB (ss := ss) (u := u) (fun b cap hm hbb => by
    obtain ⟨⟨cap', h1⟩, _⟩ := (hs.slots 0 _ _ h0).1 rfl
    simp only [List.mem_singleton] at hbb
    subst hbb
    have := hs.ok.inj _ _ _ _ _ hm h1
    subst this
    simp at hu) hss hlen hnd
  K a g' w hs'
theorem results_tmpCell {fn : Func} {t a ty : Nat} (h : fn.results = #[.tmp t, .cell a ty]) {tmps : Array Value} {w : World} {ad : Addr} {v : Value} (ha : tmps.getD a undef = .pointer (some ad)) (hr : (loadVar ty ad).run P w = .ok v w) :
    (results fn tmps).run P w = .ok (.tuple #[tmps.getD t undef, v]) w := by
  rw [Array.getD_eq_getD_getElem?] at ha
  have hs : (asAddr (tmps[a]?.getD undef)).run P w = .ok ad w := by rw [ha]; rfl
  simp [results, h, hs, hr, Array.getD_eq_getD_getElem?]
theorem Rts.mutTC {t a u o n2 by' : Nat} {ty : TypeId} {zz : Value} {kc kc' kb kb' : List Know} {dep dep2 dep3 : List Nat} {r1 r2 : Know} [hm : LkM M 0 (cBlk kb) dep] [hkd : KsDep kb dep3] [hkn : IsNil dep3] [hlk : LkM M u (cBlk kc) dep2] [ht : TyAgg P ty] [hz : TySz P ty n2 by' zz] [hsk : SubK kc o n2 kc'] (hr : fn.results = #[.tmp t, .cell a ty]) (hs0 : look S 0 = some (true, kOwnAt 0 0 bb))
    (h1 : RetOk S [t] [r1]) (hx : look S a = some (true, kOwn u o)) (hkb : kb = kb') (h2 : ∀ (g : Gh) (v : Value), kAgg kc' g v → r2 ⟨g.J, noM⟩ v) :
    Rts ⟨w0, J0, [bb], n, none, false, []⟩ S M (bodyPost P fn (RetB w0 J0 bb cap (kTup [r1, r2]) (cBlk kb'))) := by
  subst hkb
  intro act g w hs
  obtain ⟨⟨cap', q1⟩, _⟩ := (hs.slots 0 _ _ hs0).1 rfl
  obtain ⟨bk, q2, q3⟩ := hs.conts _ hm.mem
  simp only at q2 q3
  rw [q1] at q2; cases q2
  obtain ⟨bl, cap2, p1, p2⟩ := (hs.slots a _ _ hx).1 rfl
  obtain ⟨cs, ty', p3, p4⟩ := blk_of (ks := kc) hs.conts p1
  have p5 := allK_cut o n2 p4
  rw [hsk.eq] at p5
  have hld := run_loadVar_agg (P := P) (t := ty) (w := w) (b := bl) (o := o) (ds := (cs.toList.drop o).take n2) ((allK_len p5).trans hsk.len) (fun j v hj => by
    refine cell_own p3 ?_
    rw [List.getElem?_take] at hj
    split at hj
    · rw [List.getElem?_drop] at hj; simpa using hj
    · cases hj)
  exact ⟨hs.defers.1, _, results_tmpCell hr p2 hld, _, g.J, rfl, ⟨hs.ok.bel.os, hs.ok.bel.tape, hs.ok.bel.output, hs.ok.bel.size, fun k hk hne => hs.ok.bel.block k hk (by simp only [List.mem_singleton]; rintro rfl; exact hne cap rfl), hs.ok.bel.drawn⟩, hs.ok.jle, hs.ok.jold, hs.ok.im,
    ⟨_, rfl, (h1.holds hs.slots).1, h2 _ _ ⟨_, rfl, p5⟩, trivial⟩, cBlk_J (g := g) (g' := g1 g.J bb cap) (bk := .blk bb cap') (o := w.heap[bb]?) rfl q3⟩
end
section
variable {P : Program} {c : Ctx} {ops : Array Oper} {S : Slots} {M : Conts} {rest : List Oper} {Q : Exit → Act → World → Prop}
variable {d : Nat} {ty : TypeId} {pos : String} {af : Array Edge}
theorem TrL.mutQ {f : FuncId} [hf : TyFn P f] {x : Operand} {args : List Operand} {tys : Array TypeId} {ks : List Know} {res : Know} {u : Nat} {kb0 kb kb' : List Know} {dep dep0 dep1 : List Nat} {M' : Conts} (hct : CtB P f (kOwn 0 0) ks (cBlk kb) (cBlk kb') res) (hx : opK S x = some (true, kOwn u 0)) (ha : ArgsOk S true args ks)
    [hl : LkM M u (cBlk kb0) dep] [hd0 : KsDep kb0 dep0] [hn0 : IsNil dep0] [hd1 : KsDep kb' dep1] [hn1 : IsNil dep1] (hkb : kb0 = kb) [hup : UpM M u (cBlk kb') [] M'] [hkd : KDep res []] (hn : Nat.blt d c.n = true)
    (K : TrL P c ops (⟨d, true, [], res⟩ :: S) M' rest Q) : TrL P c ops S M (⟨some d, .call { callee := .value (.func f), args := (x :: args).toArray, argTypes := tys }, ty, pos, af, none⟩ :: rest) Q := by
  subst hkb
  have hcd : CDep (cBlk kb') [] := ⟨fun hJ _ h => let ⟨cs, t, h1, h2⟩ := h; ⟨cs, t, h1, hd1.dep hJ (fun t ht => by rw [hn1.eq] at ht; cases ht) h2⟩⟩
  exact TrL.mutP hct hx ha (fun g b cap o h => cBlk_J (g := g) (g' := g1 g.J b cap) rfl h) (fun {J b cap o g} h => cBlk_J (g := g1 J b cap) (g' := ⟨J, g.M⟩) rfl h) (hcd := hcd) hn K
end
end Go.Fl

/- Contracts: the rational field is opened. -/
namespace Go.Fl
open Go Go.Proofs
open TrL renaming op → tO
open RunD renaming op → rO

abbrev ratR : RlT := (ratF, [0, 1], [1], 0, 0, 1)
set_option maxRecDepth 100000 in
theorem ct_polyOf (f : FdT) (hf : ∀ i, -9223372036854775808 ≤ nth f.1 i ∧ nth f.1 i ≤ 9223372036854775807) (hl : f.1.length ≤ 1000000) : Ct Tryz.prog 107 [kRd eFd f] (kRd (eL eZ) f.1) := by
  refine Ct.mk Tryz.func107 rfl Tryz.ntmps107 rfl (fun w J => ?_); refine Tr.seq (Tr.rg ?_); refine TrL.new (ok_box 1 rfl uu rfl) rfl rfl rfl rfl ?_; refine mw rfl rfl rfl ?_; refine TrL.fin (End.nxt (Tr.seq (Tr.rg ?_))); refine mw rfl rfl rfl ?_; refine TrL.fin (End.nxt (Tr.seq (Tr.seq (Tr.rg ?_)))); refine tO (ok_fldO rfl uu) rfl rfl ?_; refine tO (ok_ldB rfl uu rfl) rfl rfl ?_; refine tO (ok_lenJ rfl uu) rfl rfl ?_; refine mv rfl rfl rfl ?_; refine TrL.fin (End.nxt ?_); refine Tr.grow (s := 3) rfl rfl 3 rfl 160 eZ rfl ?_
  refine Tr.for1 (σ := Nat) [⟨7, true, _, _⟩, ⟨8, true, _, _⟩] [] (fun k => [⟨3, true, [3], kOsl 3 k⟩, ⟨9, true, [], kI (k : Int)⟩]) (fun k => [⟨3, [], cArr true 160 eZ (f.1.take k) k⟩]) (fun k => k ≤ f.1.length) (fun k => k = f.1.length) (fun k => f.1.length - k) (0) (by first | rfl | omega | simp <;> omega | assumption) (Ent.mk (.o rfl (by first | rfl | omega | simp <;> omega | assumption) rfl <| .i rfl (by first | rfl | omega | simp <;> omega | assumption) <| .k rfl rfl <| .k rfl rfl <| .nil) (.a (by rfl) (by first | rfl | omega | simp <;> omega | assumption) <| .nil) rfl) ?_ ?_
  · intro k hR0
    refine Tr.norm (S' := [⟨3, true, _, _⟩, ⟨9, true, _, _⟩, ⟨7, true, _, _⟩, ⟨8, true, _, _⟩]) (M' := [⟨3, _, _⟩]) rfl rfl ?_
    have hfk := hf k
    refine Tr.seq (Tr.rg ?_); refine tO (ok_lss rfl uu rfl uu) rfl rfl ?_; refine TrL.fin (End.nxt (Tr.seq ?_)); refine Tr.cnd rfl ?_ ?_
    · intro h3
      replace h3 := of_decide_eq_true h3
      refine Tr.skip (End.nxt (Tr.seq (Tr.blk (Tr.seq (Tr.rg ?_)))))
      first | refine tO (ok_idxN rfl uu rfl uu rfl (fun _ => by omega)) rfl rfl ?_ | refine tO (ok_idxP rfl uu rfl uu rfl (fun _ => by omega)) rfl rfl ?_
      refine tO (ok_ldP rfl uu rfl) rfl rfl ?_; refine mw rfl rfl rfl ?_; refine TrL.fin (End.nxt (Tr.rg ?_)); refine mv rfl rfl rfl ?_; refine mv rfl rfl rfl ?_; refine tO (ok_call (fun hp => ct_fsmall _ (by omega)) (.a rfl uu <| .nil)) rfl rfl ?_; refine TrL.new (ok_bsl eZ 16 (fun hp => .cons rfl <| .nil) rfl rfl rfl rfl) rfl rfl rfl rfl ?_
      refine TrL.app rfl rfl rfl rfl rfl rfl rfl rfl (by first | omega | (simp only [List.length_cons, List.length_nil]; omega)) (by first | omega | (simp only [List.length_cons, List.length_nil]; omega)) ?_
      refine TrL.norm (S' := [⟨_, _, _, _⟩, ⟨_, _, _, _⟩, ⟨_, _, _, _⟩, ⟨_, _, _, _⟩, ⟨_, _, _, _⟩, ⟨_, _, _, _⟩, ⟨_, _, _, _⟩, ⟨_, _, _, _⟩, ⟨_, _, _, _⟩, ⟨_, _, _, _⟩, ⟨_, _, _, _⟩, ⟨_, _, _, _⟩, ⟨_, _, _, _⟩]) rfl rfl ?_; refine mw rfl rfl rfl ?_; refine TrL.fin (End.blk (End.nxt (Tr.rg ?_))); refine tO (ok_add rfl uu rfl uu (fun _ => by omega)) rfl rfl ?_; refine mv rfl rfl rfl ?_; refine TrL.fin ?_
      exact End.lp (k + 1) (by first | rfl | omega | simp <;> omega | assumption) (by omega) (Ent.mk (.o rfl (by first | rfl | omega | simp <;> omega | assumption) rfl <| .i rfl (by first | rfl | omega | simp <;> omega | assumption) <| .k rfl rfl <| .k rfl rfl <| .nil) (.a (by rw [take_succ_nth (by omega)]) (by first | rfl | omega | simp <;> omega | assumption) <| .nil) rfl)
    · intro h3
      replace h3 := Int.not_lt.1 (of_decide_eq_false h3)
      refine Tr.exit (Exs.thn (Exs.thn (Exs.here ?_)))
      exact End.cut (k) (by omega) (Ent.mk (.o rfl (by first | rfl | omega | simp <;> omega | assumption) rfl <| .i rfl (by first | rfl | omega | simp <;> omega | assumption) <| .k rfl rfl <| .k rfl rfl <| .nil) (.k rfl <| .nil) rfl)
  · rintro k hkn
    refine End.norm (S' := [⟨3, true, _, _⟩, ⟨9, true, _, _⟩, ⟨7, true, _, _⟩, ⟨8, true, _, _⟩]) (M' := [⟨3, _, _⟩]) rfl rfl ?_
    have htk : f.1.take k = f.1 := by rw [hkn, List.take_length]
    refine End.nxt (Tr.seq (Tr.rg ?_)); refine mv rfl rfl rfl ?_; refine mw rfl rfl rfl ?_; refine TrL.fin (End.nxt ?_); refine Tr.frz 3 [2] ⟨rfl, trivial⟩ (by simp only [lenMax]; omega) rfl ?_; refine Tr.ret ?_; exact Rts.res1 (fn := Tryz.f107) rfl (.r rfl (by rw [htk]) <| .nil)

set_option maxRecDepth 100000 in
theorem ct_fOpenRat  : Ct Tryz.prog 73 [kRd eFd ratF] (kTup [kPtr eReal ratR, kI 0]) := by
  have hr : ∀ i, -9223372036854775808 ≤ nth ratF.1 i ∧ nth ratF.1 i ≤ 9223372036854775807 := fun i => by match i with | 0 => decide | 1 => decide | i + 2 => (show -9223372036854775808 ≤ (0 : Int) ∧ (0 : Int) ≤ 9223372036854775807; decide)
  have hdg : Ct Tryz.prog 109 [kPtr eReal (ratF, [0, 1], [], 0, 0, 1)] (kI 1) := ct_degree (ratF, [0, 1], [], 0, 0, 1) (by decide)
  refine Ct.mk Tryz.func73 rfl Tryz.ntmps73 rfl (fun w J => ?_); refine Tr.seq (Tr.rg ?_); refine TrL.new (ok_box 1 rfl uu rfl) rfl rfl rfl rfl ?_; refine mw rfl rfl rfl ?_; refine mw rfl rfl rfl ?_; refine TrL.fin (End.nxt (Tr.seq (Tr.seq (Tr.rg ?_)))); refine tO (ok_ldBS rfl uu) rfl rfl ?_; refine tO (ok_call (fun hp => ct_fCheckRat) (.s rfl uu rfl <| .nil)) rfl rfl ?_; refine mw rfl rfl rfl ?_; refine TrL.fin (End.nxt (Tr.seq (Tr.rg ?_))); refine mv rfl rfl rfl ?_; refine tO (ok_neq rfl uu rfl uu) rfl rfl ?_
  refine TrL.fin (End.nxt ?_); refine Tr.cnd rfl ?_ ?_
  · intro h2
    exact absurd h2 (by decide)
  · intro h2
    refine Tr.skip (End.nxt (Tr.seq (Tr.rg ?_))); refine tO (ok_fldO rfl uu) rfl rfl ?_; refine tO (ok_ldB rfl uu rfl) rfl rfl ?_; refine tO (ok_call (fun hp => ct_cloneI _ (by decide)) (.a rfl uu <| .nil)) rfl rfl ?_; refine tO (ok_fldO rfl uu) rfl rfl ?_; refine TrL.stB rfl rfl rfl rfl ?_; refine TrL.fin (End.nxt (Tr.seq ?_)); refine Tr.draw 12 mixed (by kernel_rfl) ?_; refine rO (ok_ldBS rfl uu) rfl rfl ?_; refine rO (ok_ldBS rfl uu) rfl rfl ?_; refine rO (ok_call (fun hp => ct_polyOf ratF hr (by decide)) (.s rfl uu rfl <| .nil)) rfl rfl ?_; refine rO (ok_fldO rfl uu) rfl rfl ?_
    refine rO (ok_ldB rfl uu rfl) rfl rfl ?_; refine rO (ok_call (fun hp => ct_fsmall 0 (by omega)) (.a rfl uu <| .nil)) rfl rfl ?_; refine rO (ok_fldO rfl uu) rfl rfl ?_; refine rO (ok_ldB rfl uu rfl) rfl rfl ?_; refine rO (ok_call (fun hp => ct_fsmall 0 (by omega)) (.a rfl uu <| .nil)) rfl rfl ?_; refine rO (ok_fldO rfl uu) rfl rfl ?_; refine rO (ok_ldB rfl uu rfl) rfl rfl ?_; refine rO (ok_call (fun hp => ct_fsmall 1 (by omega)) (.a rfl uu <| .nil)) rfl rfl ?_; refine RunD.z ?_; refine tO (ok_build (fun hp => .cons rfl rfl rfl <| .cons rfl rfl rfl <| .cons rfl rfl rfl <| .cons rfl rfl rfl <| .cons rfl rfl rfl <| .nil)) rfl rfl ?_
    refine TrL.new (ok_box 32 rfl uu rfl) rfl rfl rfl rfl ?_; refine mw rfl rfl rfl ?_; refine TrL.fin (End.nxt (Tr.seq (Tr.rg ?_))); refine mv rfl rfl rfl ?_; refine tO (ok_lendP (fun hp => hdg) rfl rfl uu (.nil)) rfl rfl ?_; refine mw rfl rfl rfl ?_; refine TrL.fin (End.nxt (Tr.seq (Tr.rg ?_))); refine mv rfl rfl rfl ?_; refine mv rfl rfl rfl ?_; refine tO (ok_call (fun hp => ct_fsmall 1 (by omega)) (.a rfl uu <| .nil)) rfl rfl ?_; refine TrL.new (ok_bsl eZ 38 (fun hp => .cons rfl <| .nil) rfl rfl rfl rfl) rfl rfl rfl rfl ?_
    refine tO (ok_nilO rfl uu) rfl rfl ?_; refine tO (ok_fldO rfl uu) rfl rfl ?_; refine TrL.stB rfl rfl rfl rfl ?_; refine TrL.fin (End.nxt (Tr.seq (Tr.seq ?_))); refine Tr.frzC 38 32 (by decide) rfl rfl ?_; refine Tr.norm (S' := ⟨_, _, _, _⟩ :: ⟨_, _, _, _⟩ :: ⟨_, _, _, _⟩ :: ⟨_, _, _, _⟩ :: ⟨_, _, _, _⟩ :: ⟨_, _, _, _⟩ :: ⟨_, _, _, _⟩ :: ⟨_, _, _, _⟩ :: ⟨_, _, _, _⟩ :: ⟨_, _, _, _⟩ :: ⟨_, _, _, _⟩ :: ⟨_, _, _, _⟩ :: ⟨_, _, _, _⟩ :: ⟨_, _, _, _⟩ :: ⟨_, _, _, _⟩ :: ⟨_, _, _, _⟩ :: ⟨_, _, _, _⟩ :: ⟨_, _, _, _⟩ :: ⟨_, _, _, _⟩ :: ⟨_, _, _, _⟩ :: ⟨_, _, _, _⟩ :: ⟨_, _, _, _⟩ :: ⟨_, _, _, _⟩ :: ⟨_, _, _, _⟩ :: ⟨_, _, _, _⟩ :: ⟨_, _, _, _⟩ :: ⟨_, _, _, _⟩ :: ⟨_, _, _, _⟩ :: ⟨_, _, _, _⟩ :: ⟨_, _, _, _⟩ :: ⟨_, _, _, _⟩ :: ⟨_, _, _, _⟩ :: ⟨_, _, _, _⟩ :: ⟨_, _, _, _⟩ :: ⟨_, _, _, _⟩ :: ⟨_, _, _, _⟩ :: ⟨_, _, _, _⟩ :: []) (M' := [⟨_, _, _⟩, ⟨_, _, _⟩]) rfl rfl ?_
    refine Tr.frzB 32 [32, 5, 33, 35, 39] eReal ⟨rfl, rfl, rfl, rfl, rfl, trivial⟩ rfl ?_; refine Tr.norm (S' := ⟨_, _, _, _⟩ :: ⟨_, _, _, _⟩ :: ⟨_, _, _, _⟩ :: ⟨_, _, _, _⟩ :: ⟨_, _, _, _⟩ :: ⟨_, _, _, _⟩ :: ⟨_, _, _, _⟩ :: ⟨_, _, _, _⟩ :: ⟨_, _, _, _⟩ :: ⟨_, _, _, _⟩ :: ⟨_, _, _, _⟩ :: ⟨_, _, _, _⟩ :: ⟨_, _, _, _⟩ :: ⟨_, _, _, _⟩ :: ⟨_, _, _, _⟩ :: ⟨_, _, _, _⟩ :: ⟨_, _, _, _⟩ :: ⟨_, _, _, _⟩ :: ⟨_, _, _, _⟩ :: ⟨_, _, _, _⟩ :: ⟨_, _, _, _⟩ :: ⟨_, _, _, _⟩ :: ⟨_, _, _, _⟩ :: ⟨_, _, _, _⟩ :: ⟨_, _, _, _⟩ :: ⟨_, _, _, _⟩ :: ⟨_, _, _, _⟩ :: ⟨_, _, _, _⟩ :: ⟨_, _, _, _⟩ :: ⟨_, _, _, _⟩ :: ⟨_, _, _, _⟩ :: ⟨_, _, _, _⟩ :: ⟨_, _, _, _⟩ :: ⟨_, _, _, _⟩ :: ⟨_, _, _, _⟩ :: ⟨_, _, _, _⟩ :: ⟨_, _, _, _⟩ :: ⟨_, _, _, _⟩ :: ⟨_, _, _, _⟩ :: ⟨_, _, _, _⟩ :: ⟨_, _, _, _⟩ :: ⟨_, _, _, _⟩ :: []) (M' := [⟨_, _, _⟩]) rfl rfl ?_
    refine Tr.rg ?_; refine mw rfl rfl rfl ?_; refine TrL.fin (End.nxt ?_)
    refine Tr.for1 (σ := Nat) [⟨5, true, _, _⟩, ⟨6, true, _, _⟩] [] (fun k => [⟨7, true, [], kI (k : Int)⟩]) (fun k => []) (fun k => k = 1) (fun k => k = 1) (fun k => k) (1) (by first | rfl | omega | simp <;> omega | assumption) (Ent.mk (.i rfl (by first | rfl | omega | simp <;> omega | assumption) <| .k rfl rfl <| .k rfl rfl <| .nil) (.nil) rfl) ?_ ?_
    · rintro _ rfl
      refine Tr.norm (S' := [⟨7, true, _, _⟩, ⟨5, true, _, _⟩, ⟨6, true, _, _⟩]) (M' := []) rfl rfl ?_; refine Tr.seq (Tr.seq (Tr.rg ?_)); refine mv rfl rfl rfl ?_; refine mv rfl rfl rfl ?_; refine tO (ok_lss rfl uu rfl uu) rfl rfl ?_; refine TrL.fin (End.nxt ?_); refine Tr.cnd rfl ?_ ?_
      · intro h9
        exact absurd h9 (by decide)
      · intro h9
        refine Tr.exit (Exs.thn (Exs.thn (Exs.here ?_)))
        exact End.cut (1) rfl (Ent.mk (.i rfl (by first | rfl | omega | simp <;> omega | assumption) <| .k rfl rfl <| .k rfl rfl <| .nil) (.nil) rfl)
    · rintro _ rfl
      refine End.norm (S' := [⟨7, true, _, _⟩, ⟨5, true, _, _⟩, ⟨6, true, _, _⟩]) (M' := []) rfl rfl ?_; refine End.nxt (Tr.seq (Tr.seq (Tr.rg ?_))); refine mv rfl rfl rfl ?_; refine tO (ok_gtr rfl uu rfl uu) rfl rfl ?_; refine TrL.fin (End.nxt ?_); refine Tr.cnd rfl ?_ ?_
      · intro h17
        exact absurd h17 (by decide)
      · intro h17
        refine Tr.skip (End.nxt (Tr.seq (Tr.rg ?_))); refine mv rfl rfl rfl ?_; refine mw rfl rfl rfl ?_; refine mw rfl rfl rfl ?_; refine TrL.fin (End.nxt (Tr.ret ?_))
        exact Rts.res (fn := Tryz.f73) (ts := [2, 3]) rfl rfl (.p rfl (by first | rfl | omega | simp <;> omega | assumption) <| .i rfl (by first | rfl | omega | simp <;> omega | assumption) <| .nil)

end Go.Fl

/- A region that draws its order, whose first operation only copies a value: it may be taken first. No program in sight. -/
namespace Go.Fl
open Go Go.RowKit
section
variable {P : Program} {c : Ctx} {S : Slots} {M : Conts} {Q : Exit → Act → World → Prop}
theorem Tr.drawM {id m d : Nat} {x : Operand} {ty : TypeId} {pos : String} {af : Array Edge} {rest : List Oper} (hm : P.follows .mixedOrders = true) (chk : drawOk1 (⟨some d, .move x, ty, pos, af, none⟩ :: rest) m = true) (h1m : Nat.ble 1 m = true)
    (hsel : Region.noSelect (⟨some d, .move x, ty, pos, af, none⟩ :: rest).toArray = true) (hfr : Region.free .any (⟨some d, .move x, ty, pos, af, none⟩ :: rest).toArray (Array.replicate (⟨some d, .move x, ty, pos, af, none⟩ :: rest).toArray.size false) 0 = true)
    (hrd : (Region.ready .any (⟨some d, .move x, ty, pos, af, none⟩ :: rest).toArray (Array.replicate (⟨some d, .move x, ty, pos, af, none⟩ :: rest).toArray.size false)).contains 0 = true)
    (h : RunD P c (⟨some d, .move x, ty, pos, af, none⟩ :: rest).toArray (onlyN Q) M (⟨some d, .move x, ty, pos, af, none⟩ :: rest) m S M) (hr : c.rd = none ∨ noDefer (⟨some d, .move x, ty, pos, af, none⟩ :: rest) = true := by first | exact .inl rfl | exact .inr rfl) : Tr P c S M (.region id (⟨some d, .move x, ty, pos, af, none⟩ :: rest).toArray true) Q := by
  intro a g w hs0
  have hs := hs0.drew
  generalize hl : (⟨some d, .move x, ty, pos, af, none⟩ :: rest : List Oper) = l at *
  have hl0 : l[0]? = some ⟨some d, .move x, ty, pos, af, none⟩ := by rw [← hl]; rfl
  have hlp : 0 < l.length := by rw [← hl]; simp
  have hm1 : 1 ≤ m := Nat.le_of_ble_eq_true h1m
  obtain ⟨rs, hlen, hml, hst, htail⟩ := RunD.recs h
  have hd := DrawOkZ.of1 chk
  have hI0 : Inv l c M rs a g w.drew (Array.replicate l.toArray.size false) a g w.drew := by
    refine ⟨by simp, hs.ok, Gh.le_refl _, Below.refl _ _, fun i j hi => ?_, fun i hi => ?_, rfl, hs.size, fun _ _ => rfl, fun i r hr hi => ?_, fun i r e hi => ?_, fun t ht => .inl ht⟩
    all_goals
      unfold Ld at hi
      rw [Array.getElem?_eq_some_iff] at hi
      obtain ⟨_, hi⟩ := hi
      simp at hi
  have hmem : 0 ∈ Region.ready .any l.toArray (Array.replicate l.toArray.size false) := by simpa using hrd
  have hop : wpOp P l.toArray (onlyN Q) 0 (fun a' w' => ∃ g', Inv l c M rs a g w.drew ((Array.replicate l.toArray.size false).setIfInBounds 0 true) a' g' w') a w.drew :=
    hI0.step hst hlen hml hd (draw_news hst (by omega)) hs hmem (by omega) (fun a' g' w' h => ⟨g', h⟩)
  have hI1 : ∃ g', Inv l c M rs a g w.drew ((Array.replicate l.toArray.size false).setIfInBounds 0 true) (a.put (some d) (a.eval x)) g' w.drew := by
    unfold wpOp at hop
    rw [List.getElem?_toArray, hl0] at hop
    simp only at hop
    have hw : Region.wanted ⟨some d, .move x, ty, pos, af, none⟩ (yielded l.toArray a.tmps) = true := rfl
    rw [if_pos hw] at hop
    rcases hop with hop | ⟨_, hop⟩
    · simpa [Oper.wp, execOp, Oper.upon] using hop
    · exact absurd hop letsOut_onlyN
  obtain ⟨g1, hI1⟩ := hI1
  refine Code.wpIn_mono (Q := onlyN Q) (fun e _ _ q => by obtain ⟨he, h⟩ := q; subst he; exact h) (wpIn_any (hr.imp (fun h => h) fun h => ⟨h, letsOut_onlyN⟩) hm ?_)
  have hsz : l.toArray.size = (l.toArray.size - 1) + 1 := by simp; omega
  rw [hsz, ← hsz] 
  have hu : unl ((Array.replicate l.toArray.size false).setIfInBounds 0 true) ≤ l.toArray.size - 1 := by
    have h1 := unl_set (listed := Array.replicate l.toArray.size false) (i := 0) (by simpa using hlp) (fun h => by unfold Ld at h; rw [Array.getElem?_eq_some_iff] at h; obtain ⟨_, h⟩ := h; simp at h)
    have h2 : unl (Array.replicate l.toArray.size false) ≤ l.toArray.size := by
      unfold unl
      refine Nat.le_trans (List.countP_le_length) ?_
      simp
    omega
  have hrun := draw_main (Q := onlyN Q) hd hm1 hlen hml hst htail hs (l.toArray.size - 1) _ _ g1 w.drew hu (fun i hi => by
    obtain rfl : i = 0 := by omega
    exact (Ld.set (by simpa using hlp)).2 (.inl rfl)) hI1
  have := wpAny_take (P := P) (Q := onlyN Q) (ops := l.toArray) (md := .any) (i := 0) (oi := ⟨some d, .move x, ty, pos, af, none⟩) (v := a.eval x) (fuel := l.toArray.size - 1) (listed := Array.replicate l.toArray.size false) (a := a) (w := w.drew) (by rw [List.getElem?_toArray, hl0]) hsel hfr hrd (fun _ _ _ h => absurd h.1 (by simp)) (.inl ⟨rfl, fun w => by simp [execOp]⟩) hrun
  rw [← hsz] at this
  exact this
theorem Rts.norm {S' : Slots} {M' : Conts} (hS : S = S') (hM : M = M') (h : Rts c S' M' Q) : Rts c S M Q := by subst hS hM; exact h
theorem TrL.finN {ops : Array Oper} (h : End c S M Q) : TrL P c ops S M [] (onlyN Q) := fun a g w hs => wpList_nil ⟨rfl, h a g w hs⟩
end
section
variable {P : Program} {w0 : World} {J0 : JV} {n0 : Nat} {S : Slots} {M : Conts} {fn : Func}
theorem run_loadVar_leaf {t : TypeId} [ht : TyLeaf P t] {w : World} {a : Addr} {v : Value} (h : w.cell? a = some v) : (loadVar t a).run P w = .ok v w := by
  simp [loadVar, ht.run, h]
theorem Rts.resL1 {a u o : Nat} {ty : TypeId} {kc : List Know} {dep : List Nat} {k0 k : Know} [hlk : LkM M u (cBlk kc) dep] [ht : TyLeaf P ty] (hr : fn.results = #[.cell a ty]) (hx : look S a = some (true, kOwn u o)) (hk : kc[o]? = some k0)
    (hc : ∀ (g : Gh) (v : Value), k0 g v → k ⟨g.J, noM⟩ v) : Rts ⟨w0, J0, [], n0, none, false, []⟩ S M (bodyPost P fn (RetR w0 J0 k)) := by
  intro act g w hst
  obtain ⟨bl, cap, h1, h2⟩ := (hst.slots a _ _ hx).1 rfl
  obtain ⟨cs, ty', h3, h4⟩ := blk_of (ks := kc) hst.conts h1
  obtain ⟨v, hv, hkv⟩ := allK_get h4 hk
  have hcell : w.cell? ⟨bl, o, none⟩ = some v := cell_own h3 (by simpa using hv)
  exact ⟨hst.defers.1, _, results_cell1 hr h2 (run_loadVar_leaf hcell), _, g.J, rfl, ⟨hst.ok.bel.os, hst.ok.bel.tape, hst.ok.bel.output, hst.ok.bel.size, fun k hk => hst.ok.bel.block k hk (by simp), hst.ok.bel.drawn⟩, hst.ok.jle, hst.ok.jold, hst.ok.im, hc _ _ hkv⟩
theorem kI_conv {ik : IntKind} {x y : Int} (he : x = y) (g : Gh) (v : Value) (h : kInt ik x g v) : kInt ik y ⟨g.J, noM⟩ v := by subst he; exact h
end
instance {ks out : List Know} {n : Nat} [h : SubK ks 0 n out] : SubK ks (0 + 0) n out := h
end Go.Fl

/- Numbers of a field: what is handed back is taken as it was. No program in sight. -/
namespace Go.Fl
open Go
theorem gL_neg : ∀ {cs : List Int} {g : Nat}, gL g (cs.map fun z => -z) = gL g cs
  | [], _ => rfl
  | c :: cs, g => by rw [List.map_cons, gL, gL, Int.natAbs_neg, gL_neg]
theorem ediv_neg_of {a g : Int} (h : g ∣ a) : -a / g = -(a / g) := by
  obtain ⟨q, rfl⟩ := h
  by_cases hg : g = 0
  · subst hg; simp
  · rw [Int.mul_ediv_cancel_left _ hg, ← Int.mul_neg, Int.mul_ediv_cancel_left _ hg]
theorem low_negc {cs : List Int} {d : Int} : loN (cs.map fun z => -z) d = ((loN cs d).1.map (fun z => -z), (loN cs d).2) := by
  have e : sgG d (cs.map fun z => -z) = sgG d cs := by unfold sgG; rw [gL_neg]
  unfold loN
  rw [e, List.map_map, List.map_map]
  refine Prod.ext (List.map_congr_left fun c hc => ?_) rfl
  exact ediv_neg_of (sgG_dvd (.inr hc))
theorem low_low {cs : List Int} {d : Int} (hd : d ≠ 0) : loN (loN cs d).1 (loN cs d).2 = loN cs d := by
  have h2 := low_pos (cs := cs) hd
  refine low_eq (by omega) hd ?_
  show ((cs.map fun c => c / sgG d cs).map fun c => c * d) = cs.map fun c => c * (d / sgG d cs)
  rw [List.map_map]
  refine List.map_congr_left fun c hc => ?_
  obtain ⟨q, hq⟩ := sgG_dvd (d := d) (cs := cs) (.inr hc)
  obtain ⟨t, ht⟩ := sgG_dvd (d := d) (cs := cs) (.inl rfl)
  have h0 := sgG_ne (cs := cs) hd
  show c / sgG d cs * d = c * (d / sgG d cs)
  have e1 : c / sgG d cs = q := by rw [congrArg (· / sgG d cs) hq]; exact Int.mul_ediv_cancel_left _ h0
  have e2 : d / sgG d cs = t := by rw [congrArg (· / sgG d cs) ht]; exact Int.mul_ediv_cancel_left _ h0
  rw [e1, e2]
  calc q * d = q * (sgG d cs * t) := by rw [← ht]
    _ = sgG d cs * q * t := by rw [← Int.mul_assoc, Int.mul_comm q]
    _ = c * t := by rw [← hq]
abbrev NvT := List Int × Int
structure RedN (p : List Int) (v : NvT) : Prop where
  len : v.1.length = 4
  pos : 0 < v.2
  hi : ∀ i, p.length - 1 ≤ i → nth v.1 i = 0
  loN : loN v.1 v.2 = v
theorem zero_ediv {g : Int} : (0 : Int) / g = 0 := by simp
theorem low_hi {cs : List Int} {d : Int} {i : Nat} (h : nth cs i = 0) : nth (loN cs d).1 i = 0 := by
  by_cases hl : i < cs.length
  · rw [nth_low hl, h, zero_ediv]
  · rw [nth_out (by rw [low_len]; omega)]; rfl
theorem low_RedN {p cs : List Int} {d : Int} (hl : cs.length = 4) (hd : d ≠ 0) (h : ∀ i, p.length - 1 ≤ i → nth cs i = 0) : RedN p (loN cs d) := ⟨low_len.trans hl, low_pos hd, fun i hi => low_hi (h i hi), low_low hd⟩
theorem take_RedN {p : List Int} {x : List (List Int) × List Int} (_ : PolOk p) : RedN p (takeN p x) := low_RedN pad_len denN_ne fun i hi => by
  by_cases h : i < 4
  · rw [nth_pad h, nth_out (by rw [red_len]; exact hi)]; rfl
  · rw [nth_out (by rw [pad_len]; omega)]; rfl
theorem add_RedN {p : List Int} {x y : NvT} (hx : RedN p x) (hy : RedN p y) : RedN p (adV x y) := low_RedN tab_len (by have := Int.mul_pos hx.pos hy.pos; omega) fun i hi => by
  by_cases h : i < 4
  · rw [nth_tab h, hx.hi i hi, hy.hi i hi]; simp
  · rw [nth_out (by rw [tab_len]; omega)]; rfl
def negV (v : NvT) : NvT := (v.1.map (fun z => -z), v.2)
def subV (x y : NvT) : NvT := adV x (negV y)
theorem nth_neg {xs : List Int} {i : Nat} : nth (xs.map fun z => -z) i = -nth xs i := by
  by_cases h : i < xs.length
  · simp [nth, h]
  · rw [nth_out (by rw [List.length_map]; omega), nth_out (by omega)]; rfl
theorem neg_RedN {p : List Int} {x : NvT} (hx : RedN p x) : RedN p (negV x) := by
  refine ⟨by show (x.1.map _).length = 4; rw [List.length_map, hx.len], hx.pos, fun i hi => by show nth (x.1.map _) i = 0; rw [nth_neg, hx.hi i hi]; rfl, ?_⟩
  show loN (x.1.map fun z => -z) x.2 = negV x
  rw [low_negc, hx.loN]; rfl
theorem sub_RedN {p : List Int} {x y : NvT} (hx : RedN p x) (hy : RedN p y) : RedN p (subV x y) := add_RedN hx (neg_RedN hy)
theorem sub_NBd {x y : NvT} {j k : Nat} (hx : NBd j x) (hy : NBd k y) : NBd (j + k + 1) (subV x y) := add_NBd hx (neg_NBd hy)
theorem NBd.mono {j k : Nat} {v : NvT} (h : NBd j v) (hjk : j ≤ k) : NBd k v := ⟨fun i => Nat.le_trans (h.c i) hjk, Nat.le_trans h.d hjk, h.pos, h.len⟩
theorem trim_app {xs : List Int} : ∃ k, xs = trimL xs ++ List.replicate k 0 ∧ xs.length = (trimL xs).length + k := by
  induction xs with
  | nil => exact ⟨0, rfl, rfl⟩
  | cons x xs ih =>
    obtain ⟨k, h1, h2⟩ := ih
    simp only [trimL]
    split
    · rename_i h
      obtain ⟨q1, q2⟩ : trimL xs = [] ∧ x = 0 := by first | exact h | simpa using h | exact ⟨by assumption, by assumption⟩
      rw [q1] at h1 h2
      refine ⟨k + 1, ?_, by simp at h2 ⊢; omega⟩
      rw [List.nil_append, List.replicate_succ, q2]
      rw [List.nil_append] at h1
      exact congrArg _ h1
    · exact ⟨k, by rw [List.cons_append, ← h1], by simp only [List.length_cons]; omega⟩
theorem nth_trim {xs : List Int} {i : Nat} : nth (trimL xs) i = nth xs i := by
  obtain ⟨k, h1, _⟩ := trim_app (xs := xs)
  conv => rhs; rw [h1]
  rw [nth_app0]
  split
  · rfl
  · rw [nth_out (by omega)]; rfl
theorem trim_len_le {xs : List Int} {n : Nat} (h : ∀ i, n ≤ i → nth xs i = 0) : (trimL xs).length ≤ n := by
  refine Classical.byContradiction fun hn => ?_
  have hne : trimL xs ≠ [] := fun e => by rw [e] at hn; simp at hn
  have hl := trim_last hne
  have := h ((trimL xs).length - 1) (by omega)
  rw [← nth_trim] at this
  refine hl ?_
  rw [List.getLast_eq_getElem]
  have hlt : (trimL xs).length - 1 < (trimL xs).length := by omega
  simpa [nth, List.getD, List.getElem?_eq_getElem hlt] using this
theorem map_val {xs : List Int} : ((xs.map lstZ).map val) = xs := by
  rw [List.map_map]
  conv => rhs; rw [← List.map_id xs]
  exact List.map_congr_left fun c _ => lst_val c
theorem take_give {p : List Int} {v : NvT} (hv : RedN p v) : takeN p (giveN v) = v := by
  unfold takeN giveN
  show loN (pad p (((trimL v.1).map lstZ).map val)) (denN (lstZ v.2)) = v
  have h0 := hv.pos
  rw [map_val, show denN (lstZ v.2) = v.2 by unfold denN; rw [lst_val, if_neg (by omega)]]
  have e : pad p (trimL v.1) = v.1 := by
    unfold pad
    rw [red_short rfl (trim_len_le hv.hi)]
    conv => rhs; rw [tab_nth hv.len]
    refine tab_congr fun i _ => ?_
    rw [nth_app0, nth_trim]
    split
    · rfl
    · rw [← nth_trim, nth_out (by omega)]; rfl
  rw [e, hv.loN]
theorem give_NumOk {v : NvT} {k : Nat} (hv : NBd k v) : NumOk k (giveN v) := by
  refine ⟨?_, fun i => ?_, lst_in _, by show (lstZ v.2).length ≤ k; rw [lst_len]; exact hv.d⟩
  · show ((trimL v.1).map lstZ).length ≤ 16
    have := trim_len (xs := v.1)
    rw [List.length_map]
    have := hv.len
    omega
  · show InI (nth ((trimL v.1).map lstZ) i) ∧ (nth ((trimL v.1).map lstZ) i).length ≤ k
    have e : nth ((trimL v.1).map lstZ) i = lstZ (nth v.1 i) := by
      rw [← nth_trim]
      by_cases h : i < (trimL v.1).length
      · simp [nth, h]
      · rw [nth_out (by rw [List.length_map]; omega), nth_out (by omega)]; rfl
    rw [e]
    exact ⟨lst_in _, by rw [lst_len]; exact hv.c i⟩
def intV (n : Int) : NvT := ([n, 0, 0, 0], 1)
theorem sgG_one {cs : List Int} : sgG 1 cs = 1 := by
  have h1 := gL_le (c := cs) (g := 1) (by omega)
  have h2 := gL_pos (cs := cs) (g := 1) (by omega)
  unfold sgG
  rw [if_neg (by omega)]
  show ((gL 1 cs : Nat) : Int) = 1
  omega
theorem low_one {cs : List Int} : loN cs 1 = (cs, 1) := by
  unfold loN
  rw [sgG_one]
  simp
theorem int_RedN {p : List Int} (hp : PolOk p) (n : Int) : RedN p (intV n) := by
  refine ⟨rfl, by show (0 : Int) < 1; omega, fun i hi => ?_, low_one⟩
  have := hp.1.1
  show nth [n, 0, 0, 0] i = 0
  match i, hi with
  | 0, h => omega
  | 1, _ => rfl
  | 2, _ => rfl
  | 3, _ => rfl
  | i + 4, _ => rw [nth_out (by simp)]; rfl
theorem int_NBd {n : Int} (hn : -9223372036854775808 ≤ n ∧ n ≤ 9223372036854775807) : NBd 3 (intV n) := ⟨fun i => dl_four (k := 0) (dl_int hn) i, by have := dl_int (n := 1) (by omega); exact this, by show (0 : Int) < 1; omega, rfl⟩
theorem add_int {m n : Int} : adV (intV m) (intV n) = intV (m + n) := by
  unfold adV intV
  rw [show (1 : Int) * 1 = 1 by rfl, low_one]
  simp [tab, List.range, List.range.loop, nth]
theorem sub_int {m n : Int} : subV (intV m) (intV n) = intV (m - n) := by
  have e : negV (intV n) = intV (-n) := by simp [negV, intV]
  unfold subV
  rw [e, add_int, Int.sub_eq_add_neg]
end Go.Fl

/- Places of intervals, and what is computed of an exchange. No program in sight. -/
namespace Go.Fl
open Go
def ptV (ls : List NvT) (row : List Int) : Nat → NvT
  | 0 => intV 0
  | k + 1 => adV (ptV ls row k) (nth ls (nth row k).toNat)
def plP (ls : List NvT) (row : List Int) (k : Nat) : List (List (List Int) × List Int) := tab row.length fun a => if row.idxOf (a : Int) < k then giveN (ptV ls row (row.idxOf (a : Int))) else ([], [])
def plV (ls : List NvT) (row : List Int) : List NvT := tab row.length fun a => ptV ls row (row.idxOf (a : Int))
def totV (ls : List NvT) (row : List Int) : NvT := ptV ls row row.length
def awV (r : List Int × List Int) (ls : List NvT) (k : Nat) : List NvT := tab k fun a => subV (nth (plV ls r.2) a) (nth (plV ls r.1) a)
theorem plP_zero {ls : List NvT} {row : List Int} : plP ls row 0 = List.replicate row.length ([], []) := by
  unfold plP
  rw [tab_congr (G := fun _ => ([], [])) fun a _ => by simp]
  simp [tab, List.map_const']
theorem idx_pm {row : List Int} {n k : Nat} (h : pmR row n) (hk : k < row.length) : row.idxOf (nth row k) = k := idxOf_nth hk fun i hi e => by
  have := nodup_nth h.2.1 (by omega) hk e
  omega
theorem plP_succ {ls : List NvT} {row : List Int} {n k : Nat} (h : pmR row n) (hk : k < row.length) : (plP ls row k).set (nth row k).toNat (giveN (ptV ls row k)) = plP ls row (k + 1) := by
  have hr := h.1 k hk
  have hl := h.2.2
  unfold plP
  rw [tab_set]
  refine tab_congr fun a ha => ?_
  by_cases e : a = (nth row k).toNat
  · subst e
    have hi : row.idxOf (((nth row k).toNat : Nat) : Int) = k := by rw [show (((nth row k).toNat : Nat) : Int) = nth row k by omega]; exact idx_pm h hk
    rw [if_pos rfl, hi, if_pos (by omega)]
  · have hne : row.idxOf (a : Int) ≠ k := fun hi => e (by
      obtain ⟨j, hj, hja⟩ := perm_mem h.2.1 h.1 h.2.2 (x := (a : Int)) (by omega) (by omega)
      have := idx_pm h (k := j) (by omega)
      rw [hja, hi] at this
      subst this
      omega)
    rw [if_neg e]
    by_cases h1 : row.idxOf (a : Int) < k
    · rw [if_pos h1, if_pos (by omega)]
    · rw [if_neg h1, if_neg (by omega)]
theorem plP_end {ls : List NvT} {row : List Int} {n : Nat} (h : pmR row n) : plP ls row row.length = (plV ls row).map giveN := by
  unfold plP plV
  simp only [tab, List.map_map]
  refine List.map_congr_left fun a ha => ?_
  have ha : a < row.length := List.mem_range.1 ha
  have hl := h.2.2
  obtain ⟨j, hj, hja⟩ := perm_mem h.2.1 h.1 h.2.2 (x := (a : Int)) (by omega) (by omega)
  have hm : (a : Int) ∈ row := by rw [← hja]; exact nth_mem (by omega)
  show (if _ then _ else _) = giveN (ptV ls row (row.idxOf (a : Int)))
  rw [if_pos (List.idxOf_lt_length_of_mem hm)]
structure LenOk (p : List Int) (L n : Nat) (ls : List NvT) : Prop where
  len : ls.length = n
  red : ∀ a, a < n → RedN p (nth ls a)
  bd : ∀ a, a < n → NBd L (nth ls a)
theorem pt_ok {p : List Int} {L n : Nat} {ls : List NvT} {row : List Int} (hp : PolOk p) (h : LenOk p L n ls) (hr : pmR row n) : ∀ k, k ≤ n → RedN p (ptV ls row k) ∧ NBd (3 + k * (L + 1)) (ptV ls row k)
  | 0, _ => ⟨int_RedN hp 0, (int_NBd (n := 0) (by omega)).mono (by omega)⟩
  | k + 1, hk => by
    obtain ⟨h1, h2⟩ := pt_ok hp h hr k (by omega)
    have hrk := hr.1 k (by have := hr.2.2; omega)
    refine ⟨add_RedN h1 (h.red _ (by omega)), (add_NBd h2 (h.bd (nth row k).toNat (by omega))).mono ?_⟩
    rw [Nat.succ_mul]; omega
theorem nth_mapG {xs : List NvT} {i : Nat} (h : i < xs.length) : nth (xs.map giveN) i = giveN (nth xs i) := by simp [nth, h]
theorem plV_len {ls : List NvT} {row : List Int} : (plV ls row).length = row.length := tab_len
theorem plV_ok {p : List Int} {L n : Nat} {ls : List NvT} {row : List Int} (hp : PolOk p) (h : LenOk p L n ls) (hr : pmR row n) {a : Nat} (ha : a < n) : RedN p (nth (plV ls row) a) ∧ NBd (3 + n * (L + 1)) (nth (plV ls row) a) := by
  have hl := hr.2.2
  obtain ⟨j, hj, hja⟩ := perm_mem hr.2.1 hr.1 hl (x := (a : Int)) (by omega) (by omega)
  have hi : row.idxOf (a : Int) = j := by rw [← hja]; exact idx_pm hr (by omega)
  unfold plV
  rw [nth_tab (by omega), hi]
  obtain ⟨h1, h2⟩ := pt_ok hp h hr j (by omega)
  exact ⟨h1, h2.mono (Nat.add_le_add_left (Nat.mul_le_mul_right _ (by omega)) _)⟩
theorem take_LenOk {p : List Int} {xs : List (List (List Int) × List Int)} {L n : Nat} (hp : PolOk p) (hl : xs.length = n) (h : ∀ a, a < n → NumOk L (nth xs a)) : LenOk p (L + 35) n (xs.map (takeN p)) := by
  have e : ∀ a, a < n → nth (xs.map (takeN p)) a = takeN p (nth xs a) := fun a ha => by simp [nth, hl, ha]
  exact ⟨by rw [List.length_map, hl], fun a ha => by rw [e a ha]; exact take_RedN hp, fun a ha => by rw [e a ha]; exact take_NBd hp (h a ha)⟩
end Go.Fl

/- Contracts: exchanges: places of intervals, the machine. -/
namespace Go.Fl
open Go Go.Proofs
open TrL renaming op → tO
open RunD renaming op → rO

abbrev ExT := FdT × List Int × List Int × List NumT
abbrev MacT := RlT × Ori × List NumT × List NumT × List NumT × List NumT × NumT
def eX : Enc ExT := eC (fun v : ExT => (v.1, v.2.1, v.2.2.1, v.2.2.2, ())) (eP eFd (eP (eL eI) (eP (eL eI) (eP (eL eNum) eU))))
instance {v : ExT} : CellsK (kRd eX v) [kRd (eL eI) (v.1.1), kI (v.1.2.1), kI (v.1.2.2.1), kI (v.1.2.2.2), kRd (eL eI) (v.2.1), kRd (eL eI) (v.2.2.1), kRd (eL eNum) (v.2.2.2)] := inferInstanceAs (CellsK (kRd (eC (fun v : ExT => (v.1, v.2.1, v.2.2.1, v.2.2.2, ())) (eP eFd (eP (eL eI) (eP (eL eI) (eP (eL eNum) eU))))) v) _)
instance {v : ExT} {tl : List Know} : EncCells eX v tl (kRd (eL eI) (v.1.1) :: kI (v.1.2.1) :: kI (v.1.2.2.1) :: kI (v.1.2.2.2) :: kRd (eL eI) (v.2.1) :: kRd (eL eI) (v.2.2.1) :: kRd (eL eNum) (v.2.2.2) :: tl) := inferInstanceAs (EncCells (eC (fun v : ExT => (v.1, v.2.1, v.2.2.1, v.2.2.2, ())) (eP eFd (eP (eL eI) (eP (eL eI) (eP (eL eNum) eU))))) v tl _)
instance {v : ExT} : Norm eX v (kRd eX v) := ⟨fun h => h⟩
instance {v : ExT} : FieldP eX v 0 eFd (v.1) 0 := inferInstanceAs (FieldP (eC (fun v : ExT => (v.1, v.2.1, v.2.2.1, v.2.2.2, ())) (eP eFd (eP (eL eI) (eP (eL eI) (eP (eL eNum) eU))))) v 0 _ _ _)
instance {v : ExT} : FieldP eX v 1 (eL eI) (v.2.1) 4 := inferInstanceAs (FieldP (eC (fun v : ExT => (v.1, v.2.1, v.2.2.1, v.2.2.2, ())) (eP eFd (eP (eL eI) (eP (eL eI) (eP (eL eNum) eU))))) v 1 _ _ _)
instance {v : ExT} : FieldP eX v 2 (eL eI) (v.2.2.1) 5 := inferInstanceAs (FieldP (eC (fun v : ExT => (v.1, v.2.1, v.2.2.1, v.2.2.2, ())) (eP eFd (eP (eL eI) (eP (eL eI) (eP (eL eNum) eU))))) v 2 _ _ _)
instance {v : ExT} : FieldP eX v 3 (eL eNum) (v.2.2.2) 6 := inferInstanceAs (FieldP (eC (fun v : ExT => (v.1, v.2.1, v.2.2.1, v.2.2.2, ())) (eP eFd (eP (eL eI) (eP (eL eI) (eP (eL eNum) eU))))) v 3 _ _ _)
instance {ks r : List Know} {f : FdT} {a b : List Int} {c : List NumT} [h : RdOf ks (eP eFd (eP (eL eI) (eP (eL eI) (eP (eL eNum) eU)))) (f, a, b, c, ()) r] : RdOf ks eX ((f, a, b, c)) r := ⟨fun h' => h.imp h'⟩
def eMac : Enc MacT := eC (fun v : MacT => (v.1, v.2.1, v.2.2.1, v.2.2.2.1, v.2.2.2.2.1, v.2.2.2.2.2.1, v.2.2.2.2.2.2, ())) (eP (ePtr eReal) (eP eO (eP (eL eNum) (eP (eL eNum) (eP (eL eNum) (eP (eL eNum) (eP eNum eU)))))))
instance {v : MacT} : CellsK (kRd eMac v) [kPtr eReal (v.1), kRd (eL eI) (v.2.1.1), kRd (eL eI) (v.2.1.2), kRd (eL eNum) (v.2.2.1), kRd (eL eNum) (v.2.2.2.1), kRd (eL eNum) (v.2.2.2.2.1), kRd (eL eNum) (v.2.2.2.2.2.1), kRd (eL (eL eI)) (v.2.2.2.2.2.2.1), kRd (eL eI) (v.2.2.2.2.2.2.2)] := inferInstanceAs (CellsK (kRd (eC (fun v : MacT => (v.1, v.2.1, v.2.2.1, v.2.2.2.1, v.2.2.2.2.1, v.2.2.2.2.2.1, v.2.2.2.2.2.2, ())) (eP (ePtr eReal) (eP eO (eP (eL eNum) (eP (eL eNum) (eP (eL eNum) (eP (eL eNum) (eP eNum eU)))))))) v) _)
instance {v : MacT} {tl : List Know} : EncCells eMac v tl (kPtr eReal (v.1) :: kRd (eL eI) (v.2.1.1) :: kRd (eL eI) (v.2.1.2) :: kRd (eL eNum) (v.2.2.1) :: kRd (eL eNum) (v.2.2.2.1) :: kRd (eL eNum) (v.2.2.2.2.1) :: kRd (eL eNum) (v.2.2.2.2.2.1) :: kRd (eL (eL eI)) (v.2.2.2.2.2.2.1) :: kRd (eL eI) (v.2.2.2.2.2.2.2) :: tl) := inferInstanceAs (EncCells (eC (fun v : MacT => (v.1, v.2.1, v.2.2.1, v.2.2.2.1, v.2.2.2.2.1, v.2.2.2.2.2.1, v.2.2.2.2.2.2, ())) (eP (ePtr eReal) (eP eO (eP (eL eNum) (eP (eL eNum) (eP (eL eNum) (eP (eL eNum) (eP eNum eU)))))))) v tl _)
instance {v : MacT} : Norm eMac v (kRd eMac v) := ⟨fun h => h⟩
instance {v : MacT} : FieldP eMac v 0 (ePtr eReal) (v.1) 0 := inferInstanceAs (FieldP (eC (fun v : MacT => (v.1, v.2.1, v.2.2.1, v.2.2.2.1, v.2.2.2.2.1, v.2.2.2.2.2.1, v.2.2.2.2.2.2, ())) (eP (ePtr eReal) (eP eO (eP (eL eNum) (eP (eL eNum) (eP (eL eNum) (eP (eL eNum) (eP eNum eU)))))))) v 0 _ _ _)
instance {v : MacT} : FieldP eMac v 1 eO (v.2.1) 1 := inferInstanceAs (FieldP (eC (fun v : MacT => (v.1, v.2.1, v.2.2.1, v.2.2.2.1, v.2.2.2.2.1, v.2.2.2.2.2.1, v.2.2.2.2.2.2, ())) (eP (ePtr eReal) (eP eO (eP (eL eNum) (eP (eL eNum) (eP (eL eNum) (eP (eL eNum) (eP eNum eU)))))))) v 1 _ _ _)
instance {v : MacT} : FieldP eMac v 2 (eL eNum) (v.2.2.1) 3 := inferInstanceAs (FieldP (eC (fun v : MacT => (v.1, v.2.1, v.2.2.1, v.2.2.2.1, v.2.2.2.2.1, v.2.2.2.2.2.1, v.2.2.2.2.2.2, ())) (eP (ePtr eReal) (eP eO (eP (eL eNum) (eP (eL eNum) (eP (eL eNum) (eP (eL eNum) (eP eNum eU)))))))) v 2 _ _ _)
instance {v : MacT} : FieldP eMac v 3 (eL eNum) (v.2.2.2.1) 4 := inferInstanceAs (FieldP (eC (fun v : MacT => (v.1, v.2.1, v.2.2.1, v.2.2.2.1, v.2.2.2.2.1, v.2.2.2.2.2.1, v.2.2.2.2.2.2, ())) (eP (ePtr eReal) (eP eO (eP (eL eNum) (eP (eL eNum) (eP (eL eNum) (eP (eL eNum) (eP eNum eU)))))))) v 3 _ _ _)
instance {v : MacT} : FieldP eMac v 4 (eL eNum) (v.2.2.2.2.1) 5 := inferInstanceAs (FieldP (eC (fun v : MacT => (v.1, v.2.1, v.2.2.1, v.2.2.2.1, v.2.2.2.2.1, v.2.2.2.2.2.1, v.2.2.2.2.2.2, ())) (eP (ePtr eReal) (eP eO (eP (eL eNum) (eP (eL eNum) (eP (eL eNum) (eP (eL eNum) (eP eNum eU)))))))) v 4 _ _ _)
instance {v : MacT} : FieldP eMac v 5 (eL eNum) (v.2.2.2.2.2.1) 6 := inferInstanceAs (FieldP (eC (fun v : MacT => (v.1, v.2.1, v.2.2.1, v.2.2.2.1, v.2.2.2.2.1, v.2.2.2.2.2.1, v.2.2.2.2.2.2, ())) (eP (ePtr eReal) (eP eO (eP (eL eNum) (eP (eL eNum) (eP (eL eNum) (eP (eL eNum) (eP eNum eU)))))))) v 5 _ _ _)
instance {v : MacT} : FieldP eMac v 6 eNum (v.2.2.2.2.2.2) 7 := inferInstanceAs (FieldP (eC (fun v : MacT => (v.1, v.2.1, v.2.2.1, v.2.2.2.1, v.2.2.2.2.1, v.2.2.2.2.2.1, v.2.2.2.2.2.2, ())) (eP (ePtr eReal) (eP eO (eP (eL eNum) (eP (eL eNum) (eP (eL eNum) (eP (eL eNum) (eP eNum eU)))))))) v 6 _ _ _)
instance {ks r : List Know} {rr : RlT} {o : Ori} {a b c d : List NumT} {t : NumT} [h : RdOf ks (eP (ePtr eReal) (eP eO (eP (eL eNum) (eP (eL eNum) (eP (eL eNum) (eP (eL eNum) (eP eNum eU))))))) (rr, o, a, b, c, d, t, ()) r] : RdOf ks eMac ((rr, o, a, b, c, d, t)) r := ⟨fun h' => h.imp h'⟩
instance : ZeroE eNum (.agg #[.slice none 0 0, .slice none 0 0]) ([], []) := ⟨fun _ => ⟨[.slice none 0 0], [.slice none 0 0], rfl, rd_nil, [.slice none 0 0], [], rfl, rd_nil, rfl⟩⟩
def mac (r : RlT) (o : Ori) (ls : List NvT) : MacT := (r, o, ls.map giveN, (plV ls o.1).map giveN, (plV ls o.2).map giveN, (awV o ls o.1.length).map giveN, giveN (totV ls o.1))
structure SgnC (r : RlT) (sg : NvT → Int) : Prop where
  sign : ∀ x, NumOk 1000 x → Ct Tryz.prog 76 [kPtr eReal r, kRd eNum x] (kI (sg (takeN r.2.1 x)))
  cmp : ∀ x y, NumOk 50000 x → NumOk 50000 y → Ct Tryz.prog 80 [kPtr eReal r, kRd eNum x, kRd eNum y] (kI (sg (subV (takeN r.2.1 x) (takeN r.2.1 y))))
theorem ct_vAdd (r : RlT) (u v : NvT) (k : Nat) (hpo : PolOk r.2.1) (hu : RedN r.2.1 u) (hv : RedN r.2.1 v) (bu : NBd k u) (bv : NBd k v) (hk : k ≤ 100000) {x y : NumT} (hx : giveN u = x) (hy : giveN v = y) : Ct Tryz.prog 82 [kPtr eReal r, kRd eNum x, kRd eNum y] (kRd eNum (giveN (adV u v))) := by
  have h := ct_fAddN r (giveN u) (giveN v) k hpo (give_NumOk bu) (give_NumOk bv) hk
  rw [take_give hu, take_give hv, hx, hy] at h
  exact h
theorem ct_vSub (r : RlT) (u v : NvT) (k : Nat) (hpo : PolOk r.2.1) (hu : RedN r.2.1 u) (hv : RedN r.2.1 v) (bu : NBd k u) (bv : NBd k v) (hk : k ≤ 100000) {x y : NumT} (hx : giveN u = x) (hy : giveN v = y) : Ct Tryz.prog 79 [kPtr eReal r, kRd eNum x, kRd eNum y] (kRd eNum (giveN (subV u v))) := by
  have h := ct_fSubN r (giveN u) (giveN v) k hpo (give_NumOk bu) (give_NumOk bv) hk
  rw [take_give hu, take_give hv, hx, hy] at h
  exact h
set_option maxRecDepth 100000 in
theorem ct_rowsOf (x : ExT) : Ct Tryz.prog 74 [kRd eX x] (kRd eO (x.2.1, x.2.2.1)) := by
  refine Ct.mk Tryz.func74 rfl Tryz.ntmps74 rfl (fun w J => ?_); refine Tr.seq (Tr.rg ?_); refine TrL.new (ok_box 1 rfl uu rfl) rfl rfl rfl rfl ?_; refine TrL.new (ok_alloc 2) rfl rfl rfl rfl ?_; refine TrL.fin (End.nxt (Tr.seq (Tr.rg ?_))); refine tO (ok_fldO rfl uu) rfl rfl ?_; refine tO (ok_ldB rfl uu rfl) rfl rfl ?_; refine tO (ok_fldO rfl uu) rfl rfl ?_; refine tO (ok_ldB rfl uu rfl) rfl rfl ?_; refine tO (ok_build (fun hp => .cons rfl rfl rfl <| .cons rfl rfl rfl <| .nil)) rfl rfl ?_; refine TrL.stB rfl rfl rfl rfl ?_; refine TrL.fin (End.nxt (Tr.ret ?_)); exact Rts.resC1 (fn := Tryz.f74) rfl rfl (aggRd rfl (by rfl))

set_option maxRecDepth 100000 in
theorem ct_copied (r : Ori) (h1 : r.1.length ≤ 1000) (h2 : r.2.length ≤ 1000) : Ct Tryz.prog 75 [kRd eO r] (kRd eO r) := by
  refine Ct.mk Tryz.func75 rfl Tryz.ntmps75 rfl (fun w J => ?_); refine Tr.seq (Tr.rg ?_); refine TrL.new (ok_box 1 rfl uu rfl) rfl rfl rfl rfl ?_; refine TrL.new (ok_alloc 2) rfl rfl rfl rfl ?_; refine TrL.fin (End.nxt (Tr.seq ?_)); refine Tr.draw 5 mixed (by kernel_rfl) ?_; refine rO (ok_fldO rfl uu) rfl rfl ?_; refine rO (ok_ldB rfl uu rfl) rfl rfl ?_; refine rO (ok_call (fun hp => ct_cloneI _ (by omega)) (.a rfl uu <| .nil)) rfl rfl ?_; refine rO (ok_fldO rfl uu) rfl rfl ?_; refine rO (ok_ldB rfl uu rfl) rfl rfl ?_; refine RunD.z ?_; refine tO (ok_call (fun hp => ct_cloneI _ (by omega)) (.a rfl uu <| .nil)) rfl rfl ?_
  refine tO (ok_build (fun hp => .cons rfl rfl rfl <| .cons rfl rfl rfl <| .nil)) rfl rfl ?_; refine TrL.stB rfl rfl rfl rfl ?_; refine TrL.fin (End.nxt (Tr.ret ?_)); exact Rts.resC1 (fn := Tryz.f75) rfl rfl (aggRd rfl (by rfl))

set_option maxRecDepth 100000 in
theorem ct_places (r : RlT) (ra rb : List Int) (ls : List NvT) (k1 k2 k3 k4 k5 : Know) [KDep k1 []] [KDep k2 []] [KDep k3 []] [KDep k4 []] [KDep k5 []] (row : List Int) (n L : Nat) (hpo : PolOk r.2.1) (hls : LenOk r.2.1 L n ls) (hL : L ≤ 2000) (hn : n ≤ 8) (hpm : pmR row n) : CtB Tryz.prog 78 (kOwn 0 0) [kRd (eL eI) row] (cBlk [kPtr eReal r, kRd (eL eI) ra, kRd (eL eI) rb, kRd (eL eNum) (ls.map giveN), k1, k2, k3, k4, k5]) (cBlk [kPtr eReal r, kRd (eL eI) ra, kRd (eL eI) rb, kRd (eL eNum) (ls.map giveN), k1, k2, k3, k4, k5]) (kTup [kRd (eL eNum) ((plV ls row).map giveN), kRd eNum (giveN (totV ls row))]) := by
  have hrl := hpm.2.2
  have hll := hls.len
  have hrk := hpm.1
  have hml : (ls.map giveN).length = n := by rw [List.length_map, hll]
  refine CtB.mk Tryz.func78 rfl Tryz.ntmps78 rfl (fun w J bb cap => ?_); refine Tr.seq (Tr.rg ?_); refine mw rfl rfl rfl ?_; refine TrL.new (ok_alloc 5) rfl rfl rfl rfl ?_; refine TrL.fin (End.nxt (Tr.seq ?_)); refine Tr.draw 5 mixed (by kernel_rfl) ?_; refine rO (ok_move rfl uu) rfl rfl ?_; refine rO (ok_lenJ rfl uu) rfl rfl ?_; refine RunD.new (ok_makeN eNum 12 rfl uu rfl uu rfl rfl rfl (fun _ => by omega)) rfl rfl rfl rfl ?_; refine rO (ok_call (fun hp => ct_fWhole 0 (by omega)) (.a rfl uu <| .nil)) rfl rfl ?_; refine RunD.new (ok_alloc 7) rfl rfl rfl rfl ?_
  refine RunD.z ?_; refine mw rfl rfl rfl ?_; refine TrL.stB rfl rfl rfl rfl ?_; refine TrL.fin (End.nxt (Tr.seq (Tr.seq (Tr.rg ?_)))); refine mv rfl rfl rfl ?_; refine tO (ok_lenJ rfl uu) rfl rfl ?_; refine mv rfl rfl rfl ?_; refine TrL.fin (End.nxt ?_)
  refine Tr.for1 (σ := Nat) [⟨0, true, _, _⟩, ⟨5, true, _, _⟩, ⟨7, true, _, _⟩, ⟨14, true, _, _⟩, ⟨15, true, _, _⟩] [⟨0, _, _⟩, ⟨5, _, _⟩] (fun k => [⟨6, true, [12], kOsl 12 row.length⟩, ⟨16, true, [], kI (k : Int)⟩]) (fun k => [⟨12, [], cArr false 53 eNum (plP ls row k) row.length⟩, ⟨7, [], cBlk [kRd (eL (eL eI)) (giveN (ptV ls row k)).1, kRd (eL eI) (giveN (ptV ls row k)).2]⟩]) (fun k => k ≤ row.length) (fun k => k = row.length) (fun k => row.length - k) (0) (by first | rfl | omega | simp <;> omega | assumption) (Ent.mk (.o rfl (by first | rfl | omega | simp <;> omega | assumption) rfl <| .i rfl (by first | rfl | omega | simp <;> omega | assumption) <| .k rfl rfl <| .k rfl rfl <| .k rfl rfl <| .k rfl rfl <| .k rfl rfl <| .nil) (.a plP_zero.symm (by first | rfl | omega | simp <;> omega | assumption) <| .e (by rfl) rfl <| .k rfl <| .k rfl <| .nil) rfl) ?_ ?_
  · intro k hR0
    refine Tr.norm (S' := [⟨6, true, _, _⟩, ⟨16, true, _, _⟩, ⟨0, true, _, _⟩, ⟨5, true, _, _⟩, ⟨7, true, _, _⟩, ⟨14, true, _, _⟩, ⟨15, true, _, _⟩]) (M' := [⟨12, _, _⟩, ⟨7, _, _⟩, ⟨0, _, _⟩, ⟨5, _, _⟩]) rfl rfl ?_
    have hrk2 := hrk k
    have hpk := pt_ok hpo hls hpm k (by omega)
    have hkb : 3 + k * (L + 1) ≤ 20000 := by have := Nat.mul_le_mul (show k ≤ 8 by omega) (show L + 1 ≤ 2001 by omega); omega
    refine Tr.seq (Tr.rg ?_); refine tO (ok_lss rfl uu rfl uu) rfl rfl ?_; refine TrL.fin (End.nxt (Tr.seq ?_)); refine Tr.cnd rfl ?_ ?_
    · intro h3
      replace h3 := of_decide_eq_true h3
      refine Tr.skip (End.nxt (Tr.seq (Tr.blk (Tr.seq (Tr.rg ?_)))))
      first | refine tO (ok_idxN rfl uu rfl uu rfl (fun _ => by omega)) rfl rfl ?_ | refine tO (ok_idxP rfl uu rfl uu rfl (fun _ => by omega)) rfl rfl ?_
      refine tO (ok_ldP rfl uu rfl) rfl rfl ?_; refine mw rfl rfl rfl ?_; refine TrL.fin (End.nxt (Tr.seq (Tr.rg ?_))); refine mv rfl rfl rfl ?_; refine mv rfl rfl rfl ?_; refine tO (ok_ldBS rfl uu) rfl rfl ?_
      first | refine tO (ok_idxEN rfl uu rfl uu (fun _ => by omega)) rfl rfl ?_ | refine tO (ok_idxE rfl uu rfl uu (fun _ => by omega)) rfl rfl ?_
      refine TrL.stE rfl rfl rfl rfl rfl ?_; refine TrL.fin (End.nxt ?_); refine Tr.draw 12 mixed (by kernel_rfl) ?_; refine rO (ok_move rfl uu) rfl rfl ?_; refine rO (ok_nilB rfl uu) rfl rfl ?_; refine rO (ok_fldO rfl uu) rfl rfl ?_; refine rO (ok_ldB rfl uu rfl) rfl rfl ?_; refine rO (ok_ldBS rfl uu) rfl rfl ?_; refine rO (ok_move rfl uu) rfl rfl ?_; refine rO (ok_nilB rfl uu) rfl rfl ?_; refine rO (ok_fldO rfl uu) rfl rfl ?_; refine rO (ok_ldB rfl uu rfl) rfl rfl ?_; refine rO (ok_move rfl uu) rfl rfl ?_
      first | refine rO (ok_idxN rfl uu rfl uu rfl (fun _ => by omega)) rfl rfl ?_ | refine rO (ok_idxP rfl uu rfl uu rfl (fun _ => by omega)) rfl rfl ?_
      refine rO (ok_ldPA rfl uu rfl rfl) rfl rfl ?_; refine RunD.z ?_; refine tO (ok_call (fun hp => ct_vAdd r (ptV ls row k) (nth ls (nth row k).toNat) 20000 hpo hpk.1 (hls.red _ (by omega)) (hpk.2.mono hkb) ((hls.bd _ (by omega)).mono (by omega)) (by omega) rfl (nth_mapG (by omega)).symm) (.a rfl uu <| .se rfl uu rfl rfl <| .a rfl uu <| .nil)) rfl rfl ?_; refine TrL.stB rfl rfl rfl rfl ?_; refine TrL.fin (End.blk (End.nxt (Tr.rg ?_))); refine tO (ok_add rfl uu rfl uu (fun _ => by omega)) rfl rfl ?_; refine mv rfl rfl rfl ?_; refine TrL.fin ?_
      exact End.lp (k + 1) (by first | rfl | omega | simp <;> omega | assumption) (by omega) (Ent.mk (.o rfl (by first | rfl | omega | simp <;> omega | assumption) rfl <| .i rfl (by first | rfl | omega | simp <;> omega | assumption) <| .k rfl rfl <| .k rfl rfl <| .k rfl rfl <| .k rfl rfl <| .k rfl rfl <| .nil) (.a (by rw [← plP_succ hpm (by omega)]) (by first | rfl | omega | simp <;> omega | assumption) <| .e (by rfl) rfl <| .k rfl <| .k rfl <| .nil) rfl)
    · intro h3
      replace h3 := Int.not_lt.1 (of_decide_eq_false h3)
      refine Tr.exit (Exs.thn (Exs.thn (Exs.here ?_)))
      exact End.cut (k) (by omega) (Ent.mk (.o rfl (by first | rfl | omega | simp <;> omega | assumption) rfl <| .i rfl (by first | rfl | omega | simp <;> omega | assumption) <| .k rfl rfl <| .k rfl rfl <| .k rfl rfl <| .k rfl rfl <| .k rfl rfl <| .nil) (.k rfl <| .k rfl <| .k rfl <| .k rfl <| .nil) rfl)
  · rintro k hkn
    refine End.norm (S' := [⟨6, true, _, _⟩, ⟨16, true, _, _⟩, ⟨0, true, _, _⟩, ⟨5, true, _, _⟩, ⟨7, true, _, _⟩, ⟨14, true, _, _⟩, ⟨15, true, _, _⟩]) (M' := [⟨12, _, _⟩, ⟨7, _, _⟩, ⟨0, _, _⟩, ⟨5, _, _⟩]) rfl rfl ?_; refine End.nxt (Tr.seq ?_); refine Tr.frzBo 12 [6] rfl rfl ⟨rfl, trivial⟩ (by simp only [lenMax]; omega) rfl ?_; refine Tr.draw 3 mixed (by kernel_rfl) ?_; refine rO (ok_move rfl uu) rfl rfl ?_; refine rO (ok_ldBS rfl uu) rfl rfl ?_; refine rO (ok_assign rfl uu) rfl rfl ?_; refine RunD.z ?_; refine TrL.stB rfl rfl rfl rfl ?_; refine TrL.fin (End.nxt (Tr.ret ?_)); exact Rts.mutTC (fn := Tryz.f78) (t := 4) (a := 5) rfl rfl (.r rfl (by rw [hkn, plP_end hpm]) <| .nil) rfl rfl (aggRd rfl (by rw [hkn]; rfl))

end Go.Fl

/- Contracts: exchanges are opened; points of the interval. -/
namespace Go.Fl
open Go Go.Proofs
open TrL renaming op → tO
open RunD renaming op → rO

set_option maxRecDepth 100000 in
set_option maxHeartbeats 1000000 in
theorem ct_xopen (x : ExT) (r : RlT) (sg : NvT → Int) (hop : Ct Tryz.prog 73 [kRd eFd x.1] (kTup [kPtr eReal r, kI 0])) (hpo : PolOk r.2.1) (hs : SgnC r sg) (v : RowsOk (x.2.1, x.2.2.1)) (hl : x.2.2.2.length = x.2.1.length) (hnm : ∀ a, a < x.2.1.length → NumOk 1000 (nth x.2.2.2 a)) (hpos : ∀ a, a < x.2.1.length → 0 < sg (takeN r.2.1 (nth x.2.2.2 a))) : Ct Tryz.prog 47 [kRd eX x] (kTup [kPtr eMac (mac r (x.2.1, x.2.2.1) (x.2.2.2.map (takeN r.2.1))), kI 0]) := by
  obtain ⟨ls, hls⟩ : ∃ ls, ls = x.2.2.2.map (takeN r.2.1) := ⟨_, rfl⟩
  have hlo : LenOk r.2.1 1035 x.2.1.length ls := hls ▸ take_LenOk hpo hl hnm
  have hll := hlo.len
  have hle : x.2.1.length ≤ 8 := v.le
  have hle2 : x.2.2.1.length = x.2.1.length := v.len
  have hp1 : pmR x.2.1 x.2.1.length := v.p1
  have hp2 : pmR x.2.2.1 x.2.1.length := v.p2
  have hpl1 : ((plV ls x.2.1).map giveN).length = x.2.1.length := by rw [List.length_map, plV_len]
  have hpl2 : ((plV ls x.2.2.1).map giveN).length = x.2.1.length := by rw [List.length_map, plV_len, hle2]
  rw [← hls]
  have hnk : ∀ k, k < x.2.1.length → nth ls k = takeN r.2.1 (nth x.2.2.2 k) := fun k hk => by rw [hls]; simp [nth, hl, hk]
  refine Ct.mk Tryz.func47 rfl Tryz.ntmps47 rfl (fun w J => ?_); refine Tr.seq (Tr.rg ?_); refine TrL.new (ok_box 1 rfl uu rfl) rfl rfl rfl rfl ?_; refine mw rfl rfl rfl ?_; refine mw rfl rfl rfl ?_; refine TrL.fin (End.nxt (Tr.seq (Tr.rg ?_))); refine tO (ok_fldO rfl uu) rfl rfl ?_; refine tO (ok_ldBS rfl uu) rfl rfl ?_; refine tO (ok_call (fun hp => hop) (.s rfl uu rfl <| .nil)) rfl rfl ?_; refine mv rfl rfl rfl ?_; refine tO (ok_ext rfl uu rfl) rfl rfl ?_; refine tO (ok_ext rfl uu rfl) rfl rfl ?_; refine mw rfl rfl rfl ?_
  refine mw rfl rfl rfl ?_; refine TrL.fin (End.nxt (Tr.seq (Tr.seq (Tr.rg ?_)))); refine mv rfl rfl rfl ?_; refine tO (ok_neq rfl uu rfl uu) rfl rfl ?_; refine TrL.fin (End.nxt ?_); refine Tr.cnd rfl ?_ ?_
  · intro h2
    exact absurd h2 (by decide)
  · intro h2
    refine Tr.skip (End.nxt (Tr.seq (Tr.seq (Tr.rg ?_)))); refine tO (ok_ldBS rfl uu) rfl rfl ?_; refine tO (ok_call (fun hp => ct_rowsOf _) (.s rfl uu rfl <| .nil)) rfl rfl ?_; refine tO (ok_call (fun hp => ct_eCheckRows _) (.a rfl uu <| .nil)) rfl rfl ?_; refine mw rfl rfl rfl ?_; refine TrL.fin (End.nxt (Tr.seq (Tr.rg ?_))); refine mv rfl rfl rfl ?_; refine tO (ok_neq rfl uu rfl uu) rfl rfl ?_; refine TrL.fin (End.nxt ?_); refine Tr.cnd rfl ?_ ?_
    · intro h5
      rw [chkR_of v] at h5; exact absurd h5 (by decide)
    · intro h5
      refine Tr.skip (End.nxt (Tr.seq (Tr.seq (Tr.rg ?_)))); refine tO (ok_fldO rfl uu) rfl rfl ?_; refine tO (ok_ldB rfl uu rfl) rfl rfl ?_; refine tO (ok_lenJ rfl uu) rfl rfl ?_; refine tO (ok_fldO rfl uu) rfl rfl ?_; refine tO (ok_ldB rfl uu rfl) rfl rfl ?_; refine tO (ok_lenJ rfl uu) rfl rfl ?_; refine tO (ok_neq rfl uu rfl uu) rfl rfl ?_; refine TrL.fin (End.nxt ?_); refine Tr.cnd rfl ?_ ?_
      · intro h7
        replace h7 := of_decide_eq_true h7
        omega
      · intro h7
        replace h7 := Classical.not_not.1 (of_decide_eq_false h7)
        refine Tr.skip (End.nxt (Tr.seq (Tr.rg ?_))); refine mv rfl rfl rfl ?_; refine tO (ok_ldBS rfl uu) rfl rfl ?_; refine tO (ok_call (fun hp => ct_rowsOf _) (.s rfl uu rfl <| .nil)) rfl rfl ?_; refine tO (ok_call (fun hp => ct_copied _ (by show x.2.1.length ≤ 1000; omega) (by show x.2.2.1.length ≤ 1000; omega)) (.a rfl uu <| .nil)) rfl rfl ?_; refine tO (ok_build (fun hp => .cons rfl rfl rfl <| .cons rfl rfl rfl <| .nil)) rfl rfl ?_; refine TrL.new (ok_box 38 rfl uu rfl) rfl rfl rfl rfl ?_; refine mw rfl rfl rfl ?_; refine TrL.fin (End.nxt (Tr.seq (Tr.seq (Tr.rg ?_))))
        refine tO (ok_fldO rfl uu) rfl rfl ?_; refine tO (ok_ldB rfl uu rfl) rfl rfl ?_; refine tO (ok_lenJ rfl uu) rfl rfl ?_; refine mv rfl rfl rfl ?_; refine TrL.fin (End.nxt ?_); refine Tr.growC 38 3 139 rfl (ks' := [_, _, _, kOsl 139 0, _, _, _, _, _]) rfl rfl 53 eNum rfl (.cons inferInstance rfl <| .cons inferInstance rfl <| .cons inferInstance rfl <| .cons inferInstance rfl <| .cons inferInstance rfl <| .cons inferInstance rfl <| .cons inferInstance rfl <| .cons inferInstance rfl <| .cons inferInstance rfl <| inferInstance) ?_
        refine Tr.for1 (σ := Nat) [⟨1, true, _, _⟩, ⟨4, true, _, _⟩, ⟨7, true, _, _⟩, ⟨40, true, _, _⟩, ⟨41, true, _, _⟩] [⟨1, _, _⟩] (fun k => [⟨42, true, [], kI (k : Int)⟩]) (fun k => [⟨38, [139], cBlk [kPtr eReal r, kRd (eL eI) x.2.1, kRd (eL eI) x.2.2.1, kOsl 139 k, kDet (.slice none 0 0), kDet (.slice none 0 0), kDet (.slice none 0 0), kDet (.slice none 0 0), kDet (.slice none 0 0)]⟩, ⟨139, [], cArr true 53 eNum ((ls.take k).map giveN) k⟩]) (fun k => k ≤ x.2.1.length) (fun k => k = x.2.1.length) (fun k => x.2.1.length - k) (0) (by first | rfl | omega | simp <;> omega | assumption) (Ent.mk (.i rfl (by first | rfl | omega | simp <;> omega | assumption) <| .k rfl rfl <| .k rfl rfl <| .k rfl rfl <| .k rfl rfl <| .k rfl rfl <| .nil) (.e (by rfl) rfl <| .a (by rfl) (by first | rfl | omega | simp <;> omega | assumption) <| .k rfl <| .nil) rfl) ?_ ?_
        · intro k hR0
          refine Tr.norm (S' := [⟨42, true, _, _⟩, ⟨1, true, _, _⟩, ⟨4, true, _, _⟩, ⟨7, true, _, _⟩, ⟨40, true, _, _⟩, ⟨41, true, _, _⟩]) (M' := [⟨38, _, _⟩, ⟨139, _, _⟩, ⟨1, _, _⟩]) rfl rfl ?_; refine Tr.seq (Tr.rg ?_); refine tO (ok_lss rfl uu rfl uu) rfl rfl ?_; refine TrL.fin (End.nxt (Tr.seq ?_)); refine Tr.cnd rfl ?_ ?_
          · intro h11
            replace h11 := of_decide_eq_true h11
            refine Tr.skip (End.nxt (Tr.seq (Tr.blk (Tr.seq (Tr.rg ?_)))))
            first | refine tO (ok_idxN rfl uu rfl uu rfl (fun _ => by omega)) rfl rfl ?_ | refine tO (ok_idxP rfl uu rfl uu rfl (fun _ => by omega)) rfl rfl ?_
            refine tO (ok_ldPA rfl uu rfl rfl) rfl rfl ?_; refine TrL.new (ok_alloc 9) rfl rfl rfl rfl ?_; refine TrL.stB rfl rfl rfl rfl ?_; refine TrL.fin (End.nxt (Tr.seq (Tr.seq (Tr.rg ?_)))); refine mv rfl rfl rfl ?_; refine tO (ok_ldBS rfl uu) rfl rfl ?_; refine tO (ok_call (fun hp => hs.sign _ (hnm k (by omega))) (.a rfl uu <| .s rfl uu rfl <| .nil)) rfl rfl ?_; refine tO (ok_leq rfl uu rfl uu) rfl rfl ?_; refine TrL.fin (End.nxt ?_); refine Tr.cnd rfl ?_ ?_
            · intro h13
              replace h13 := of_decide_eq_true h13
              have := hpos k (by omega); omega
            · intro h13
              replace h13 := Int.not_le.1 (of_decide_eq_false h13)
              refine Tr.skip (End.nxt ?_); refine Tr.drawM (m := 9) mixed (by kernel_rfl) rfl (by kernel_rfl) (by kernel_rfl) (by kernel_rfl) ?_; refine rO (ok_move rfl uu) rfl rfl ?_; refine rO (ok_move rfl uu) rfl rfl ?_; refine rO (ok_nilO rfl uu) rfl rfl ?_; refine rO (ok_fldO rfl uu) rfl rfl ?_; refine rO (ok_ldB rfl uu rfl) rfl rfl ?_; refine rO (ok_move rfl uu) rfl rfl ?_; refine rO (ok_ldBS rfl uu) rfl rfl ?_; refine rO (ok_call (fun hp => ct_fNormalN r _ _ hpo (hnm k (by omega)) (by omega)) (.a rfl uu <| .s rfl uu rfl <| .nil)) rfl rfl ?_; refine RunD.new (ok_bsl eNum 58 (fun hp => .cons rfl <| .nil) rfl rfl rfl rfl) rfl rfl rfl rfl ?_
              refine RunD.z ?_; refine TrL.wkC 38 (.k <| .k <| .k <| .any <| .k <| .k <| .k <| .k <| .k <| .nil) rfl ?_
              refine TrL.app rfl rfl rfl rfl rfl rfl rfl rfl (by first | omega | (simp only [List.length_cons, List.length_nil]; omega)) (by first | omega | (simp only [List.length_cons, List.length_nil]; omega)) ?_
              refine TrL.norm (S' := [⟨_, _, _, _⟩, ⟨_, _, _, _⟩, ⟨_, _, _, _⟩, ⟨_, _, _, _⟩, ⟨_, _, _, _⟩, ⟨_, _, _, _⟩, ⟨_, _, _, _⟩, ⟨_, _, _, _⟩, ⟨_, _, _, _⟩, ⟨_, _, _, _⟩, ⟨_, _, _, _⟩, ⟨_, _, _, _⟩, ⟨_, _, _, _⟩, ⟨_, _, _, _⟩, ⟨_, _, _, _⟩, ⟨_, _, _, _⟩, ⟨_, _, _, _⟩, ⟨_, _, _, _⟩, ⟨_, _, _, _⟩, ⟨_, _, _, _⟩, ⟨_, _, _, _⟩, ⟨_, _, _, _⟩, ⟨_, _, _, _⟩, ⟨_, _, _, _⟩]) rfl rfl ?_; refine tO (ok_nilO rfl uu) rfl rfl ?_; refine tO (ok_fldO rfl uu) rfl rfl ?_; refine TrL.stB rfl rfl rfl rfl ?_; refine TrL.finN ?_; refine End.blk (End.nxt (Tr.rg ?_)); refine tO (ok_add rfl uu rfl uu (fun _ => by omega)) rfl rfl ?_
              refine mv rfl rfl rfl ?_; refine TrL.fin ?_
              exact End.lp (k + 1) (by first | rfl | omega | simp <;> omega | assumption) (by omega) (Ent.mk (.i rfl (by first | rfl | omega | simp <;> omega | assumption) <| .k rfl rfl <| .k rfl rfl <| .k rfl rfl <| .k rfl rfl <| .k rfl rfl <| .nil) (.e (by rfl) rfl <| .a (by rw [take_succ_nth (by omega), List.map_append, hnk k (by omega)]; rfl) (by first | rfl | omega | simp <;> omega | assumption) <| .k rfl <| .nil) rfl)
          · intro h11
            replace h11 := Int.not_lt.1 (of_decide_eq_false h11)
            refine Tr.exit (Exs.thn (Exs.thn (Exs.here ?_)))
            exact End.cut (k) (by omega) (Ent.mk (.i rfl (by first | rfl | omega | simp <;> omega | assumption) <| .k rfl rfl <| .k rfl rfl <| .k rfl rfl <| .k rfl rfl <| .k rfl rfl <| .nil) (.k rfl <| .k rfl <| .k rfl <| .nil) rfl)
        · rintro k hkn
          refine End.norm (S' := [⟨42, true, _, _⟩, ⟨1, true, _, _⟩, ⟨4, true, _, _⟩, ⟨7, true, _, _⟩, ⟨40, true, _, _⟩, ⟨41, true, _, _⟩]) (M' := [⟨38, _, _⟩, ⟨139, _, _⟩, ⟨1, _, _⟩]) rfl rfl ?_
          have htk : ls.take k = ls := by rw [hkn, ← hll, List.take_length]
          rw [htk]
          refine End.nxt (Tr.seq ?_); refine Tr.frzC 139 38 (by simp only [lenMax]; omega) rfl rfl ?_; refine Tr.norm (S' := ⟨_, _, _, _⟩ :: ⟨_, _, _, _⟩ :: ⟨_, _, _, _⟩ :: ⟨_, _, _, _⟩ :: ⟨_, _, _, _⟩ :: ⟨_, _, _, _⟩ :: []) (M' := [⟨_, _, _⟩, ⟨_, _, _⟩]) rfl rfl ?_; refine Tr.rg ?_; refine mv rfl rfl rfl ?_; refine mv rfl rfl rfl ?_; refine mv rfl rfl rfl ?_; refine tO (ok_fldO rfl uu) rfl rfl ?_; refine tO (ok_ldB rfl uu rfl) rfl rfl ?_; refine TrL.mutQ (ct_places r _ _ ls _ _ _ _ _ x.2.1 x.2.1.length 1035 hpo hlo (by omega) (by omega) hp1) rfl (.a rfl uu <| .nil) rfl rfl ?_
          refine mv rfl rfl rfl ?_; refine tO (ok_ext rfl uu rfl) rfl rfl ?_; refine tO (ok_ext rfl uu rfl) rfl rfl ?_; refine tO (ok_nilO rfl uu) rfl rfl ?_; refine tO (ok_fldO rfl uu) rfl rfl ?_; refine TrL.stB rfl rfl rfl rfl ?_; refine tO (ok_nilO rfl uu) rfl rfl ?_; refine tO (ok_fldO rfl uu) rfl rfl ?_; refine TrL.stB rfl rfl rfl rfl ?_; refine TrL.fin (End.nxt (Tr.seq (Tr.rg ?_))); refine mv rfl rfl rfl ?_; refine mv rfl rfl rfl ?_; refine tO (ok_fldO rfl uu) rfl rfl ?_; refine tO (ok_ldB rfl uu rfl) rfl rfl ?_
          refine TrL.mutQ (ct_places r _ _ ls _ _ _ _ _ x.2.2.1 x.2.1.length 1035 hpo hlo (by omega) (by omega) hp2) rfl (.a rfl uu <| .nil) rfl rfl ?_; refine mv rfl rfl rfl ?_; refine tO (ok_ext rfl uu rfl) rfl rfl ?_; refine tO (ok_ext rfl uu rfl) rfl rfl ?_; refine tO (ok_nilO rfl uu) rfl rfl ?_; refine tO (ok_fldO rfl uu) rfl rfl ?_; refine TrL.stB rfl rfl rfl rfl ?_; refine TrL.fin (End.nxt (Tr.seq (Tr.seq (Tr.rg ?_)))); refine mv rfl rfl rfl ?_; refine tO (ok_nilO rfl uu) rfl rfl ?_; refine tO (ok_fldO rfl uu) rfl rfl ?_; refine tO (ok_ldB rfl uu rfl) rfl rfl ?_
          refine tO (ok_lenJ rfl uu) rfl rfl ?_; refine mv rfl rfl rfl ?_; refine TrL.fin (End.nxt ?_); refine Tr.growC 38 6 140 rfl (ks' := [_, _, _, _, _, _, kOsl 140 0, _, _]) rfl rfl 53 eNum rfl (.cons inferInstance rfl <| .cons inferInstance rfl <| .cons inferInstance rfl <| .cons inferInstance rfl <| .cons inferInstance rfl <| .cons inferInstance rfl <| .cons inferInstance rfl <| .cons inferInstance rfl <| .cons inferInstance rfl <| inferInstance) ?_
          refine Tr.for1 (σ := Nat) [⟨4, true, _, _⟩, ⟨7, true, _, _⟩, ⟨90, true, _, _⟩] [] (fun k => [⟨91, true, [], kI (k : Int)⟩]) (fun k => [⟨38, [140], cBlk [kPtr eReal r, kRd (eL eI) x.2.1, kRd (eL eI) x.2.2.1, kRd (eL eNum) (ls.map giveN), kRd (eL eNum) ((plV ls x.2.1).map giveN), kRd (eL eNum) ((plV ls x.2.2.1).map giveN), kOsl 140 k, kRd (eL (eL eI)) (giveN (totV ls x.2.1)).1, kRd (eL eI) (giveN (totV ls x.2.1)).2]⟩, ⟨140, [], cArr true 53 eNum (tab k fun a => giveN (subV (nth (plV ls x.2.2.1) a) (nth (plV ls x.2.1) a))) k⟩]) (fun k => k ≤ x.2.1.length) (fun k => k = x.2.1.length) (fun k => x.2.1.length - k) (0) (by first | rfl | omega | simp <;> omega | assumption) (Ent.mk (.i rfl (by first | rfl | omega | simp <;> omega | assumption) <| .k rfl rfl <| .k rfl rfl <| .k rfl rfl <| .nil) (.e (by rfl) rfl <| .a (by rfl) (by first | rfl | omega | simp <;> omega | assumption) <| .nil) rfl) ?_ ?_
          · intro k hR1
            refine Tr.norm (S' := [⟨91, true, _, _⟩, ⟨4, true, _, _⟩, ⟨7, true, _, _⟩, ⟨90, true, _, _⟩]) (M' := [⟨38, _, _⟩, ⟨140, _, _⟩]) rfl rfl ?_
            have hkb : 3 + x.2.1.length * (1035 + 1) ≤ 20000 := by omega
            refine Tr.seq (Tr.rg ?_); refine tO (ok_lss rfl uu rfl uu) rfl rfl ?_; refine TrL.fin (End.nxt (Tr.seq ?_)); refine Tr.cnd rfl ?_ ?_
            · intro h20
              replace h20 := of_decide_eq_true h20
              refine Tr.skip (End.nxt (Tr.seq (Tr.blk (Tr.seq (Tr.rg ?_))))); refine mv rfl rfl rfl ?_; refine mw rfl rfl rfl ?_; refine TrL.fin (End.nxt ?_); refine Tr.drawM (m := 22) mixed (by kernel_rfl) rfl (by kernel_rfl) (by kernel_rfl) (by kernel_rfl) ?_
              have hq1 := plV_ok hpo hlo hp1 (a := k) (by omega)
              have hq2 := plV_ok hpo hlo hp2 (a := k) (by omega)
              refine rO (ok_move rfl uu) rfl rfl ?_; refine rO (ok_move rfl uu) rfl rfl ?_; refine rO (ok_nilO rfl uu) rfl rfl ?_; refine rO (ok_fldO rfl uu) rfl rfl ?_; refine rO (ok_ldB rfl uu rfl) rfl rfl ?_; refine rO (ok_move rfl uu) rfl rfl ?_; refine rO (ok_move rfl uu) rfl rfl ?_; refine rO (ok_nilO rfl uu) rfl rfl ?_; refine rO (ok_fldO rfl uu) rfl rfl ?_; refine rO (ok_ldB rfl uu rfl) rfl rfl ?_; refine rO (ok_move rfl uu) rfl rfl ?_
              first | refine rO (ok_idxN rfl uu rfl uu rfl (fun _ => by omega)) rfl rfl ?_ | refine rO (ok_idxP rfl uu rfl uu rfl (fun _ => by omega)) rfl rfl ?_
              refine rO (ok_ldPA rfl uu rfl rfl) rfl rfl ?_; refine rO (ok_move rfl uu) rfl rfl ?_; refine rO (ok_nilO rfl uu) rfl rfl ?_; refine rO (ok_fldO rfl uu) rfl rfl ?_; refine rO (ok_ldB rfl uu rfl) rfl rfl ?_; refine rO (ok_move rfl uu) rfl rfl ?_
              first | refine rO (ok_idxN rfl uu rfl uu rfl (fun _ => by omega)) rfl rfl ?_ | refine rO (ok_idxP rfl uu rfl uu rfl (fun _ => by omega)) rfl rfl ?_
              refine rO (ok_ldPA rfl uu rfl rfl) rfl rfl ?_; refine rO (ok_call (fun hp => ct_vSub r (nth (plV ls x.2.2.1) k) (nth (plV ls x.2.1) k) 20000 hpo hq2.1 hq1.1 (hq2.2.mono hkb) (hq1.2.mono hkb) (by omega) (nth_mapG (by rw [plV_len]; omega)).symm (nth_mapG (by rw [plV_len]; omega)).symm) (.a rfl uu <| .a rfl uu <| .a rfl uu <| .nil)) rfl rfl ?_; refine RunD.new (ok_bsl eNum 115 (fun hp => .cons rfl <| .nil) rfl rfl rfl rfl) rfl rfl rfl rfl ?_; refine RunD.z ?_; refine TrL.wkC 38 (.k <| .k <| .k <| .k <| .k <| .k <| .any <| .k <| .k <| .nil) rfl ?_
              refine TrL.app rfl rfl rfl rfl rfl rfl rfl rfl (by first | omega | (simp only [List.length_cons, List.length_nil]; omega)) (by first | omega | (simp only [List.length_cons, List.length_nil]; omega)) ?_
              refine TrL.norm (S' := ⟨_, _, _, _⟩ :: ⟨_, _, _, _⟩ :: ⟨_, _, _, _⟩ :: ⟨_, _, _, _⟩ :: ⟨_, _, _, _⟩ :: ⟨_, _, _, _⟩ :: ⟨_, _, _, _⟩ :: ⟨_, _, _, _⟩ :: ⟨_, _, _, _⟩ :: ⟨_, _, _, _⟩ :: ⟨_, _, _, _⟩ :: ⟨_, _, _, _⟩ :: ⟨_, _, _, _⟩ :: ⟨_, _, _, _⟩ :: ⟨_, _, _, _⟩ :: ⟨_, _, _, _⟩ :: ⟨_, _, _, _⟩ :: ⟨_, _, _, _⟩ :: ⟨_, _, _, _⟩ :: ⟨_, _, _, _⟩ :: ⟨_, _, _, _⟩ :: ⟨_, _, _, _⟩ :: ⟨_, _, _, _⟩ :: ⟨_, _, _, _⟩ :: ⟨_, _, _, _⟩ :: ⟨_, _, _, _⟩ :: ⟨_, _, _, _⟩ :: ⟨_, _, _, _⟩ :: ⟨_, _, _, _⟩ :: ⟨_, _, _, _⟩ :: []) rfl rfl ?_; refine tO (ok_nilO rfl uu) rfl rfl ?_; refine tO (ok_fldO rfl uu) rfl rfl ?_
              refine TrL.stB rfl rfl rfl rfl ?_; refine TrL.finN ?_; refine End.blk (End.nxt (Tr.rg ?_)); refine tO (ok_add rfl uu rfl uu (fun _ => by omega)) rfl rfl ?_; refine mv rfl rfl rfl ?_; refine TrL.fin ?_
              exact End.lp (k + 1) (by first | rfl | omega | simp <;> omega | assumption) (by omega) (Ent.mk (.i rfl (by first | rfl | omega | simp <;> omega | assumption) <| .k rfl rfl <| .k rfl rfl <| .k rfl rfl <| .nil) (.e (by rfl) rfl <| .a (by rw [tab_succ]) (by first | rfl | omega | simp <;> omega | assumption) <| .nil) rfl)
            · intro h20
              replace h20 := Int.not_lt.1 (of_decide_eq_false h20)
              refine Tr.exit (Exs.thn (Exs.thn (Exs.here ?_)))
              exact End.cut (k) (by omega) (Ent.mk (.i rfl (by first | rfl | omega | simp <;> omega | assumption) <| .k rfl rfl <| .k rfl rfl <| .k rfl rfl <| .nil) (.k rfl <| .k rfl <| .nil) rfl)
          · rintro k hkn
            refine End.norm (S' := [⟨91, true, _, _⟩, ⟨4, true, _, _⟩, ⟨7, true, _, _⟩, ⟨90, true, _, _⟩]) (M' := [⟨38, _, _⟩, ⟨140, _, _⟩]) rfl rfl ?_; refine End.nxt (Tr.seq ?_); refine Tr.frzC 140 38 (by simp only [lenMax]; omega) rfl rfl ?_; refine Tr.norm (S' := ⟨_, _, _, _⟩ :: ⟨_, _, _, _⟩ :: ⟨_, _, _, _⟩ :: ⟨_, _, _, _⟩ :: []) (M' := [⟨_, _, _⟩]) rfl rfl ?_; refine Tr.frzB 38 [7] eMac ⟨rfl, trivial⟩ rfl ?_; refine Tr.norm (S' := ⟨_, _, _, _⟩ :: ⟨_, _, _, _⟩ :: ⟨_, _, _, _⟩ :: ⟨_, _, _, _⟩ :: ⟨_, _, _, _⟩ :: []) (M' := []) rfl rfl ?_; refine Tr.rg ?_; refine mv rfl rfl rfl ?_
            refine mw rfl rfl rfl ?_; refine mw rfl rfl rfl ?_; refine TrL.fin (End.nxt (Tr.ret ?_)); exact Rts.res (fn := Tryz.f47) (ts := [2, 3]) rfl rfl (.p rfl (by rw [hkn]; simp only [mac, awV, tab, List.map_map]; rfl) <| .i rfl (by rfl) <| .nil)

end Go.Fl

/- What the walks of iterators lean on. -/

/- The letter of a point. No program in sight. -/
namespace Go.Fl
open Go
theorem nth_drop1 {xs : List Int} {i : Nat} : nth (xs.drop 1) i = nth xs (i + 1) := by simp [nth]
theorem NumOk.mono {j k : Nat} {x : List (List Int) × List Int} (h : NumOk j x) (hjk : j ≤ k) : NumOk k x := ⟨h.len, fun i => ⟨(h.c i).1, Nat.le_trans (h.c i).2 hjk⟩, h.d.1, Nat.le_trans h.d.2 hjk⟩
def letV (sg : NvT → Int) (tops : List NvT) (row : List Int) (pv : NvT) : Nat → Int
  | 0 => nth row 0
  | k + 1 => if sg (subV (nth tops (nth row (k + 1)).toNat) pv) ≤ 0 then nth row (k + 1) else letV sg tops row pv k
theorem letV_at {sg : NvT → Int} {tops : List NvT} {row : List Int} {pv : NvT} : ∀ k, ∃ j, j ≤ k ∧ letV sg tops row pv k = nth row j
  | 0 => ⟨0, Nat.le_refl _, rfl⟩
  | k + 1 => by
    rw [letV]
    split
    · exact ⟨k + 1, Nat.le_refl _, rfl⟩
    · obtain ⟨j, h1, h2⟩ := letV_at (sg := sg) (tops := tops) (row := row) (pv := pv) k
      exact ⟨j, by omega, h2⟩
theorem letV_rg {sg : NvT → Int} {tops : List NvT} {row : List Int} {pv : NvT} {n k : Nat} (h : pmR row n) (hk : k < n) : 0 ≤ letV sg tops row pv k ∧ letV sg tops row pv k < n := by
  obtain ⟨j, h1, h2⟩ := letV_at (sg := sg) (tops := tops) (row := row) (pv := pv) k
  rw [h2]
  exact h.1 j (by have := h.2.2; omega)
theorem awV_len {o : List Int × List Int} {ls : List NvT} {n : Nat} : (awV o ls n).length = n := tab_len
theorem aw_ok {p : List Int} {L n : Nat} {ls : List NvT} {o : List Int × List Int} (hp : PolOk p) (h : LenOk p L n ls) (h1 : pmR o.1 n) (h2 : pmR o.2 n) {a : Nat} (ha : a < n) : RedN p (nth (awV o ls n) a) ∧ NBd (2 * (3 + n * (L + 1)) + 1) (nth (awV o ls n) a) := by
  unfold awV
  rw [nth_tab ha]
  obtain ⟨a1, a2⟩ := plV_ok hp h h1 ha
  obtain ⟨b1, b2⟩ := plV_ok hp h h2 ha
  exact ⟨sub_RedN b1 a1, (sub_NBd b2 a2).mono (by omega)⟩
def imgV (o : List Int × List Int) (ls : List NvT) (pv : NvT) (a : Int) : NvT := adV pv (nth (awV o ls o.1.length) a.toNat)
def sgQ (v : NvT) : Int := cmpZ (nth v.1 0) 0
theorem pol_rat : PolOk [0, 1] := by
  refine ⟨by decide, fun i => ?_⟩
  match i with
  | 0 => show dl 0 ≤ 1; rw [dl_zero.2 rfl]; omega
  | 1 => show dl 1 ≤ 1; exact dl_small (by omega) (by omega)
  | i + 2 => rw [nth_out (by simp)]; show dl 0 ≤ 1; rw [dl_zero.2 rfl]; omega
end Go.Fl

/- Contracts: loops over slices.Backward; points, their letters and images. -/
namespace Go.Fl
open Go Go.Proofs
open TrL renaming op → tO
open RunD renaming op → rO

instance {r : RlT} {o : Ori} {ls : List NvT} : FieldP eMac (mac r o ls) 0 (ePtr eReal) (r) 0 := inferInstanceAs (FieldP eMac (mac r o ls) 0 (ePtr eReal) ((mac r o ls).1) _)
instance {r : RlT} {o : Ori} {ls : List NvT} : FieldP eMac (mac r o ls) 1 eO (o) 1 := inferInstanceAs (FieldP eMac (mac r o ls) 1 eO ((mac r o ls).2.1) _)
instance {r : RlT} {o : Ori} {ls : List NvT} : FieldP eMac (mac r o ls) 2 (eL eNum) (ls.map giveN) 3 := inferInstanceAs (FieldP eMac (mac r o ls) 2 (eL eNum) ((mac r o ls).2.2.1) _)
instance {r : RlT} {o : Ori} {ls : List NvT} : FieldP eMac (mac r o ls) 3 (eL eNum) ((plV ls o.1).map giveN) 4 := inferInstanceAs (FieldP eMac (mac r o ls) 3 (eL eNum) ((mac r o ls).2.2.2.1) _)
instance {r : RlT} {o : Ori} {ls : List NvT} : FieldP eMac (mac r o ls) 4 (eL eNum) ((plV ls o.2).map giveN) 5 := inferInstanceAs (FieldP eMac (mac r o ls) 4 (eL eNum) ((mac r o ls).2.2.2.2.1) _)
instance {r : RlT} {o : Ori} {ls : List NvT} : FieldP eMac (mac r o ls) 5 (eL eNum) ((awV o ls o.1.length).map giveN) 6 := inferInstanceAs (FieldP eMac (mac r o ls) 5 (eL eNum) ((mac r o ls).2.2.2.2.2.1) _)
instance {r : RlT} {o : Ori} {ls : List NvT} : FieldP eMac (mac r o ls) 6 eNum (giveN (totV ls o.1)) 7 := inferInstanceAs (FieldP eMac (mac r o ls) 6 eNum ((mac r o ls).2.2.2.2.2.2) _)
instance {r : RlT} {o : Ori} {ls : List NvT} : CellsK (kRd eMac (mac r o ls)) [kPtr eReal (r), kRd (eL eI) (o.1), kRd (eL eI) (o.2), kRd (eL eNum) (ls.map giveN), kRd (eL eNum) ((plV ls o.1).map giveN), kRd (eL eNum) ((plV ls o.2).map giveN), kRd (eL eNum) ((awV o ls o.1.length).map giveN), kRd (eL (eL eI)) ((giveN (totV ls o.1)).1), kRd (eL eI) ((giveN (totV ls o.1)).2)] := inferInstanceAs (CellsK (kRd eMac (mac r o ls)) [kPtr eReal ((mac r o ls).1), kRd (eL eI) (((mac r o ls).2.1).1), kRd (eL eI) (((mac r o ls).2.1).2), kRd (eL eNum) ((mac r o ls).2.2.1), kRd (eL eNum) ((mac r o ls).2.2.2.1), kRd (eL eNum) ((mac r o ls).2.2.2.2.1), kRd (eL eNum) ((mac r o ls).2.2.2.2.2.1), kRd (eL (eL eI)) (((mac r o ls).2.2.2.2.2.2).1), kRd (eL eI) (((mac r o ls).2.2.2.2.2.2).2)])
instance {r : RlT} {o : Ori} {ls : List NvT} {tl : List Know} : EncCells eMac (mac r o ls) tl (kPtr eReal (r) :: kRd (eL eI) (o.1) :: kRd (eL eI) (o.2) :: kRd (eL eNum) (ls.map giveN) :: kRd (eL eNum) ((plV ls o.1).map giveN) :: kRd (eL eNum) ((plV ls o.2).map giveN) :: kRd (eL eNum) ((awV o ls o.1.length).map giveN) :: kRd (eL (eL eI)) ((giveN (totV ls o.1)).1) :: kRd (eL eI) ((giveN (totV ls o.1)).2) :: tl) := inferInstanceAs (EncCells eMac (mac r o ls) tl (kPtr eReal ((mac r o ls).1) :: kRd (eL eI) (((mac r o ls).2.1).1) :: kRd (eL eI) (((mac r o ls).2.1).2) :: kRd (eL eNum) ((mac r o ls).2.2.1) :: kRd (eL eNum) ((mac r o ls).2.2.2.1) :: kRd (eL eNum) ((mac r o ls).2.2.2.2.1) :: kRd (eL eNum) ((mac r o ls).2.2.2.2.2.1) :: kRd (eL (eL eI)) (((mac r o ls).2.2.2.2.2.2).1) :: kRd (eL eI) (((mac r o ls).2.2.2.2.2.2).2) :: tl))
section
open Go Go.RowKit Go.Proofs
attribute [local go_sem] Oper.semAt_some
set_option maxRecDepth 100000 in
set_option maxHeartbeats 2000000 in
theorem back_ints : BackOk Tryz.prog 164 eI := by
  intro J W xs ptr him hp
  obtain ⟨bx, ox, ds, rfl, hrd, hcell⟩ := hp
  obtain ⟨ad, cap, rfl, ⟨hlen, hcap⟩, hrow⟩ := hrd
  refine ⟨fun i => .int .i64 (nth xs i), fun i _ => ⟨[.int .i64 (nth xs i)], rfl, rfl⟩, ?_⟩
  intro l Iv Ix hY h0
  have hbox : ∀ W', Im J W' → W'.cell? ⟨bx, ox, none⟩ = some (.slice ad xs.length cap) := fun W' h => h _ _ _ (by have := hcell 0 _ rfl; simpa using this)
  simp only [lenMax] at hlen
  have hb0 := hbox W him
  refine (callsIn_wide (n := 3)).1 ?_; refine callsIn_of_wp Tryz.func164 rfl trivial ?_
  simp only [Tryz.ntmps164, List.size_toArray, List.length_cons, List.length_nil, Nat.reduceAdd, Nat.reduceSub, Array.replicate_succ, Array.replicate_zero, List.push_toArray, List.append_toArray, List.nil_append, List.cons_append]
  gi_wp2
  gi_loopw [3] (fun i wr => ∃ k : Nat, k ≤ xs.length ∧ i = .int .i64 ((xs.length : Int) - 1 - k) ∧ Iv k wr ∧ Im J wr)
    (fun i _ => (intOf i + 1).toNat)
  case atStart => exact ⟨0, Nat.zero_le _, by simp, h0, him⟩
  case round =>
    obtain ⟨k, hk, rfl, hJs, himr⟩ := hrel
    have hbr := hbox wr himr
    by_cases hlt : k < xs.length
    · obtain ⟨fn, tmps, assign, body, hy, hR⟩ := hY k wr hlt himr hJs
      rw [show ((xs.length - 1 - k : Nat) : Int) = (xs.length : Int) - 1 - k by omega] at hy
      obtain ⟨b, o, rfl, hrw⟩ := hrow.resolve_left (fun e => by subst e; simp at hlt)
      have hcx : wr.cell? ⟨b, o + (xs.length - 1 - k), none⟩ = some (.int .i64 (nth xs (xs.length - 1 - k))) := by
        obtain ⟨ds, q1, q2⟩ := hrw (xs.length - 1 - k) _ (nth_get (by omega))
        have q1 : ds = [.int .i64 (nth xs (xs.length - 1 - k))] := q1
        subst q1
        have := himr _ _ _ (q2 0 _ rfl)
        simpa [eI, eInt] using this
      gi_wp2
      refine hR.mono ?_
      rintro e W3 (⟨rfl, hJ3, hk3⟩ | ⟨rfl, hJx3⟩)
      · gi_wp2
        go_roundw
        case rel => exact ⟨k + 1, by omega, by congr 1; omega, hJ3, hk3⟩
        case measure => simp [intOf]; omega
      · gi_wp2
        refine bodyPost_ret (results_none rfl _ _ _) rfl ?_; exact ⟨⟨_, rfl⟩, .inr ⟨k, hlt, hJx3⟩⟩
    · obtain rfl : k = xs.length := by omega
      gi_wp2
      go_end0
      exact ⟨⟨_, rfl⟩, .inl hJs⟩
end
set_option maxRecDepth 100000 in
theorem ct_backI (xs : List Int) : Ct Tryz.prog 120 [kRd (eL eI) xs] (kClo 164 [kPtr (eL eI) xs]) := by
  refine Ct.mk Tryz.func120 rfl Tryz.ntmps120 rfl (fun w J => ?_); refine Tr.seq (Tr.rg ?_); refine TrL.new (ok_box 1 rfl uu rfl) rfl rfl rfl rfl ?_; refine mw rfl rfl rfl ?_; refine TrL.fin (End.nxt (Tr.seq ?_)); refine Tr.frzB 1 [1] (eL eI) ⟨rfl, trivial⟩ rfl ?_; refine Tr.norm (S' := ⟨_, _, _, _⟩ :: ⟨_, _, _, _⟩ :: ⟨_, _, _, _⟩ :: ⟨_, _, _, _⟩ :: []) (M' := []) rfl rfl ?_; refine Tr.rg ?_; refine tO (ok_clo (.cons rfl uu <| .nil)) rfl rfl ?_; refine mw rfl rfl rfl ?_; refine TrL.fin (End.nxt (Tr.ret ?_)); exact Rts.res1 (fn := Tryz.f120) rfl (.k rfl <| .nil)

set_option maxRecDepth 100000 in
theorem ct_inside (r : RlT) (o : Ori) (ls : List NvT) (sg : NvT → Int) (p q : NumT) (hs : SgnC r sg) (hpn : NumOk 1000 p) (hq : NumOk 50000 q) (hp2 : NumOk 50000 p) : Ct Tryz.prog 48 [kPtr eMac (mac r o ls), kRd eNum p, kRd eNum q] (kB (decide (0 ≤ sg (takeN r.2.1 p)) && decide (sg (subV (takeN r.2.1 p) (takeN r.2.1 q)) < 0))) := by
  refine Ct.mk Tryz.func48 rfl Tryz.ntmps48 rfl (fun w J => ?_); refine Tr.seq (Tr.rg ?_); refine TrL.new (ok_box 4 rfl uu rfl) rfl rfl rfl rfl ?_; refine TrL.new (ok_box 5 rfl uu rfl) rfl rfl rfl rfl ?_; refine mw rfl rfl rfl ?_; refine TrL.fin (End.nxt (Tr.seq ?_)); refine Tr.draw 14 mixed (by kernel_rfl) ?_; refine rO (ok_move rfl uu) rfl rfl ?_; refine rO (ok_nilP rfl uu) rfl rfl ?_; refine rO (ok_fldP rfl uu rfl) rfl rfl ?_; refine rO (ok_ldP rfl uu rfl) rfl rfl ?_; refine rO (ok_ldBS rfl uu) rfl rfl ?_; refine rO (ok_call (fun hp => hs.sign _ hpn) (.a rfl uu <| .s rfl uu rfl <| .nil)) rfl rfl ?_
  refine rO (ok_geq rfl uu rfl uu) rfl rfl ?_; refine rO (ok_move rfl uu) rfl rfl ?_; refine RunD.gd rfl rfl rfl (ok_move rfl uu) rfl rfl ?_; refine RunD.gd rfl rfl rfl (ok_nilP rfl id) rfl rfl ?_; refine RunD.gd rfl rfl rfl (ok_fldP rfl id rfl) rfl rfl ?_; refine RunD.gd rfl rfl rfl (ok_ldP rfl id rfl) rfl rfl ?_; refine RunD.gd rfl rfl rfl (ok_ldBS rfl uu) rfl rfl ?_; refine RunD.gd rfl rfl rfl (ok_ldBS rfl uu) rfl rfl ?_; refine RunD.z ?_; refine TrL.gd rfl rfl rfl (ok_call (fun hp => hs.cmp _ _ hp2 hq) (.a rfl id <| .s rfl id rfl <| .s rfl id rfl <| .nil)) rfl rfl ?_; refine TrL.gd rfl rfl rfl (ok_lss rfl id rfl uu) rfl rfl ?_
  refine tO (ok_and rfl uu rfl (fun hp h => gdT2 ((fun _ => rfl) hp) h)) rfl rfl ?_; refine mw rfl rfl rfl ?_; refine TrL.fin (End.nxt (Tr.ret ?_))
  exact Rts.res1 (fn := Tryz.f48) rfl (.b rfl (by first | rfl | omega | simp <;> omega | assumption) <| .nil)

set_option maxRecDepth 100000 in
theorem ct_letter (r : RlT) (o : Ori) (ls : List NvT) (sg : NvT → Int) (p : NumT) (hpo : PolOk r.2.1) (hs : SgnC r sg) (v : RowsOk o) (hlo : LenOk r.2.1 1035 o.1.length ls) (hpn : NumOk 1000 p) : Ct Tryz.prog 81 [kPtr eMac (mac r o ls), kRd eNum p] (kI (letV sg (plV ls o.1) o.1 (takeN r.2.1 p) (o.1.length - 1))) := by
  have hle : o.1.length ≤ 8 := v.le
  have htwo : 2 ≤ o.1.length := v.two
  have hp1 : pmR o.1 o.1.length := v.p1
  have hrr := hp1.1
  have hpl1 : ((plV ls o.1).map giveN).length = o.1.length := by rw [List.length_map, plV_len]
  have hp2 := hpn.mono (show 1000 ≤ 50000 by omega)
  have hdl : (o.1.drop 1).length = o.1.length - 1 := List.length_drop
  have hdn : ∀ i, nth (o.1.drop 1) i = nth o.1 (i + 1) := fun i => nth_drop1
  refine CtM.mk Tryz.func81 rfl Tryz.ntmps81 rfl (fun w J => ?_); refine Tr.seq (Tr.rg ?_); refine TrL.new (ok_box 2 rfl uu rfl) rfl rfl rfl rfl ?_; refine TrL.new (ok_box 3 rfl uu rfl) rfl rfl rfl rfl ?_; refine TrL.new (ok_alloc 4) rfl rfl rfl rfl ?_; refine TrL.fin (End.nxt (Tr.seq (Tr.rg ?_))); refine tO (ok_ldB rfl uu rfl) rfl rfl ?_; refine tO (ok_nilP rfl uu) rfl rfl ?_; refine tO (ok_fldP rfl uu rfl) rfl rfl ?_; refine tO (ok_fldP rfl uu rfl) rfl rfl ?_; refine tO (ok_ldP rfl uu rfl) rfl rfl ?_; refine mw rfl rfl rfl ?_; refine TrL.fin (End.nxt (Tr.seq (Tr.seq (Tr.rg ?_))))
  refine mv rfl rfl rfl ?_; refine tO (ok_slJl rfl uu rfl uu (fun _ => by omega) rfl) rfl rfl ?_; refine tO (ok_call (fun hp => ct_backI _) (.a rfl uu <| .nil)) rfl rfl ?_; refine TrL.fin (End.nxt (Tr.blk ?_)); refine Tr.back (e := eI) (xs := (o.1.drop 1)) back_ints [⟨2, true, _, _⟩, ⟨3, true, _, _⟩, ⟨4, true, _, _⟩, ⟨5, true, _, _⟩, ⟨15, true, _, _⟩] [2, 3, 4] (fun k => [⟨2, [], cBlk [kPtr eMac (mac r o ls)]⟩, ⟨3, [], cBlk [kRd (eL (eL eI)) p.1, kRd (eL eI) p.2]⟩, ⟨4, [], cBlk [kI 0]⟩]) (fun k => [⟨2, [], cBlk [kPtr eMac (mac r o ls)]⟩, ⟨3, [], cBlk [kRd (eL (eL eI)) p.1, kRd (eL eI) p.2]⟩, ⟨4, [], cBlk [kI (nth (o.1.drop 1) ((o.1.drop 1).length - k))]⟩]) (fun k => letV sg (plV ls o.1) o.1 (takeN r.2.1 p) (o.1.length - 1) = letV sg (plV ls o.1) o.1 (takeN r.2.1 p) (o.1.length - 1 - k)) (fun k => letV sg (plV ls o.1) o.1 (takeN r.2.1 p) (o.1.length - 1) = nth (o.1.drop 1) ((o.1.drop 1).length - k)) (Ent.mk (.k rfl rfl <| .k rfl rfl <| .k rfl rfl <| .k rfl rfl <| .k rfl rfl <| .nil) (.k rfl <| .k rfl <| .k rfl <| .nil) rfl) rfl rfl (fun _ => rfl) (fun _ => rfl) (fun _ => inferInstance) (fun _ => inferInstance) rfl rfl ?_ ?_ ?_
  · intro k hk15 hR15 l15 w15 J15 b15 bks15
    refine Tr.norm (S' := ⟨_, _, _, _⟩ :: ⟨_, _, _, _⟩ :: ⟨_, _, _, _⟩ :: ⟨_, _, _, _⟩ :: ⟨_, _, _, _⟩ :: ⟨_, _, _, _⟩ :: ⟨_, _, _, _⟩ :: ⟨_, _, _, _⟩ :: ⟨_, _, _, _⟩ :: ⟨_, _, _, _⟩ :: []) (M' := [⟨_, _, _⟩, ⟨_, _, _⟩, ⟨_, _, _⟩]) rfl rfl ?_
    have hix : (o.1.drop 1).length - 1 - k + 1 = o.1.length - 1 - k := by omega
    have hio := hrr (o.1.length - 1 - k) (by omega)
    have hni := hdn ((o.1.drop 1).length - 1 - k)
    rw [hix] at hni
    have hq := plV_ok hpo hlo hp1 (a := (nth o.1 (o.1.length - 1 - k)).toNat) (by omega)
    have hmg : nth ((plV ls o.1).map giveN) (nth (o.1.drop 1) ((o.1.drop 1).length - 1 - k)).toNat = giveN (nth (plV ls o.1) (nth o.1 (o.1.length - 1 - k)).toNat) := by rw [hni]; exact nth_mapG (by rw [plV_len]; omega)
    obtain ⟨m, hm⟩ : ∃ m, o.1.length - 1 - k = m + 1 := ⟨o.1.length - 1 - (k + 1), by omega⟩
    refine Tr.rg ?_; refine mw rfl rfl rfl ?_; refine TrL.fin ?_; refine End.asg (fun w1015 J1015 b1015 => ?_); refine Tr.norm (S' := ⟨_, _, _, _⟩ :: ⟨_, _, _, _⟩ :: ⟨_, _, _, _⟩ :: ⟨_, _, _, _⟩ :: ⟨_, _, _, _⟩ :: ⟨_, _, _, _⟩ :: ⟨_, _, _, _⟩ :: ⟨_, _, _, _⟩ :: ⟨_, _, _, _⟩ :: ⟨_, _, _, _⟩ :: ⟨_, _, _, _⟩ :: []) (M' := [⟨_, _, _⟩, ⟨_, _, _⟩, ⟨_, _, _⟩]) rfl rfl ?_; refine Tr.blk (Tr.seq ?_); refine Tr.draw 12 mixed (by kernel_rfl) ?_; refine rO (ok_ldB rfl uu rfl) rfl rfl ?_; refine rO (ok_nilP rfl uu) rfl rfl ?_; refine rO (ok_fldP rfl uu rfl) rfl rfl ?_; refine rO (ok_ldP rfl uu rfl) rfl rfl ?_
    refine rO (ok_ldB rfl uu rfl) rfl rfl ?_; refine rO (ok_nilP rfl uu) rfl rfl ?_; refine rO (ok_fldP rfl uu rfl) rfl rfl ?_; refine rO (ok_ldP rfl uu rfl) rfl rfl ?_; refine rO (ok_move rfl uu) rfl rfl ?_
    first | refine rO (ok_idxN rfl uu rfl uu rfl (fun _ => by omega)) rfl rfl ?_ | refine rO (ok_idxP rfl uu rfl uu rfl (fun _ => by omega)) rfl rfl ?_
    refine rO (ok_ldPA rfl uu rfl rfl) rfl rfl ?_; refine rO (ok_ldBS rfl uu) rfl rfl ?_; refine RunD.z ?_; refine tO (ok_call (fun hp => hs.cmp _ _ (by rw [hmg]; exact (give_NumOk hq.2).mono (by omega)) hp2) (.a rfl uu <| .a rfl uu <| .s rfl uu rfl <| .nil)) rfl rfl ?_; refine tO (ok_leq rfl uu rfl uu) rfl rfl ?_; refine TrL.fin (End.nxt ?_); refine Tr.cnd rfl ?_ ?_
    · intro h4
      replace h4 := of_decide_eq_true h4
      rw [hmg, take_give hq.1] at h4
      refine Tr.seq (Tr.rg ?_); refine mv rfl rfl rfl ?_; refine TrL.stB rfl rfl rfl rfl ?_; refine TrL.fin (End.nxt (Tr.ret (Rts.out ?_))); exact Rts.rnd (by rw [hR15, show (o.1.drop 1).length - (k + 1) = (o.1.drop 1).length - 1 - k by omega, hni, hm, letV, if_pos (by rw [← hm]; omega)]) (Ent.mk (.k rfl rfl <| .k rfl rfl <| .k rfl rfl <| .nil) (.k rfl <| .k rfl <| .e (by rw [show (o.1.drop 1).length - (k + 1) = (o.1.drop 1).length - 1 - k by omega]) rfl <| .nil) rfl)
    · intro h4
      replace h4 := Int.not_le.1 (of_decide_eq_false h4)
      rw [hmg, take_give hq.1] at h4
      refine Tr.skip (End.blk ?_); exact End.rnd (by rw [hR15, hm, letV, if_neg (by rw [← hm]; omega), show o.1.length - 1 - (k + 1) = m by omega]) (Ent.mk (.k rfl rfl <| .k rfl rfl <| .k rfl rfl <| .nil) (.k rfl <| .k rfl <| .k rfl <| .nil) rfl)
  · intro hE15
    refine End.norm (S' := [⟨2, true, _, _⟩, ⟨3, true, _, _⟩, ⟨4, true, _, _⟩, ⟨5, true, _, _⟩, ⟨15, true, _, _⟩]) (M' := [⟨2, _, _⟩, ⟨3, _, _⟩, ⟨4, _, _⟩]) rfl rfl ?_; refine End.blk (End.nxt (Tr.seq (Tr.rg ?_))); refine mv rfl rfl rfl ?_
    first | refine tO (ok_idxN rfl uu rfl uu rfl (fun _ => by omega)) rfl rfl ?_ | refine tO (ok_idxP rfl uu rfl uu rfl (fun _ => by omega)) rfl rfl ?_
    refine tO (ok_ldP rfl uu rfl) rfl rfl ?_; refine TrL.stB rfl rfl rfl rfl ?_; refine TrL.fin (End.nxt (Tr.ret ?_)); refine Rts.mk ?_; exact Rts.resL1 (fn := Tryz.f81) rfl rfl rfl (kI_conv (by rw [hE15, show o.1.length - 1 - (o.1.drop 1).length = 0 by omega]; rfl))
  · intro k hk15 hX15
    refine Rts.norm (S' := [⟨2, true, _, _⟩, ⟨3, true, _, _⟩, ⟨4, true, _, _⟩, ⟨5, true, _, _⟩, ⟨15, true, _, _⟩]) (M' := [⟨2, _, _⟩, ⟨3, _, _⟩, ⟨4, _, _⟩]) rfl rfl ?_; refine Rts.out (Rts.thn ?_); refine Rts.mk ?_; exact Rts.resL1 (fn := Tryz.f81) rfl rfl rfl (kI_conv hX15.symm)

end Go.Fl

/- Contracts: the image of a point. -/
namespace Go.Fl
open Go Go.Proofs
open TrL renaming op → tO
open RunD renaming op → rO

theorem sgnQ {r : RlT} (hpo : PolOk r.2.1) (h2 : r.2.1.length = 2) : SgnC r sgQ := ⟨fun x h => ct_fSignQ r x 1000 hpo h2 h (by omega), fun x y hx hy => ct_fCmpQ r x y 50000 hpo hx hy (by omega) h2⟩
set_option maxRecDepth 100000 in
theorem ct_image (r : RlT) (o : Ori) (ls : List NvT) (sg : NvT → Int) (p : NumT) (hpo : PolOk r.2.1) (hs : SgnC r sg) (v : RowsOk o) (hlo : LenOk r.2.1 1035 o.1.length ls) (hpn : NumOk 1000 p) : Ct Tryz.prog 49 [kPtr eMac (mac r o ls), kRd eNum p] (kTup [kRd eNum (giveN (imgV o ls (takeN r.2.1 p) (letV sg (plV ls o.1) o.1 (takeN r.2.1 p) (o.1.length - 1)))), kI (letV sg (plV ls o.1) o.1 (takeN r.2.1 p) (o.1.length - 1))]) := by
  have hle : o.1.length ≤ 8 := v.le
  have htwo : 2 ≤ o.1.length := v.two
  have hp1 : pmR o.1 o.1.length := v.p1
  have hrr := hp1.1
  have hpl1 : ((plV ls o.1).map giveN).length = o.1.length := by rw [List.length_map, plV_len]
  have hp2 := v.p2
  have hlt := letV_rg (sg := sg) (tops := plV ls o.1) (pv := takeN r.2.1 p) hp1 (show o.1.length - 1 < o.1.length by omega)
  have hq := aw_ok hpo hlo hp1 hp2 (a := (letV sg (plV ls o.1) o.1 (takeN r.2.1 p) (o.1.length - 1)).toNat) (by omega)
  have hmg : nth ((awV o ls o.1.length).map giveN) (letV sg (plV ls o.1) o.1 (takeN r.2.1 p) (o.1.length - 1)).toNat = giveN (nth (awV o ls o.1.length) (letV sg (plV ls o.1) o.1 (takeN r.2.1 p) (o.1.length - 1)).toNat) := nth_mapG (by rw [awV_len]; omega)
  have hal : ((awV o ls o.1.length).map giveN).length = o.1.length := by rw [List.length_map, awV_len]
  refine Ct.mk Tryz.func49 rfl Tryz.ntmps49 rfl (fun w J => ?_); refine Tr.seq (Tr.rg ?_); refine TrL.new (ok_box 3 rfl uu rfl) rfl rfl rfl rfl ?_; refine TrL.new (ok_alloc 4) rfl rfl rfl rfl ?_; refine mw rfl rfl rfl ?_; refine TrL.fin (End.nxt (Tr.seq (Tr.rg ?_))); refine mv rfl rfl rfl ?_; refine tO (ok_ldBS rfl uu) rfl rfl ?_; refine tO (ok_call (fun hp => ct_letter r o ls sg p hpo hs v hlo hpn) (.a rfl uu <| .s rfl uu rfl <| .nil)) rfl rfl ?_; refine mw rfl rfl rfl ?_; refine TrL.fin (End.nxt (Tr.seq ?_)); refine Tr.drawS 14 4 mixed (by kernel_rfl) ?_
  refine RunS.opA (ok_move rfl uu) (by kernel_rfl) rfl rfl ?_; refine RunS.opA (ok_nilP rfl uu) (by kernel_rfl) rfl rfl ?_; refine RunS.opA (ok_fldP rfl uu rfl) (by kernel_rfl) rfl rfl ?_; refine RunS.opA (ok_ldP rfl uu rfl) (by kernel_rfl) rfl rfl ?_; refine RunS.opA (ok_ldBS rfl uu) (by kernel_rfl) rfl rfl ?_; refine RunS.opA (ok_move rfl uu) (by kernel_rfl) rfl rfl ?_; refine RunS.opA (ok_nilP rfl uu) (by kernel_rfl) rfl rfl ?_; refine RunS.opA (ok_fldP rfl uu rfl) (by kernel_rfl) rfl rfl ?_; refine RunS.opA (ok_ldP rfl uu rfl) (by kernel_rfl) rfl rfl ?_; refine RunS.opA (ok_move rfl uu) (by kernel_rfl) rfl rfl ?_
  first | refine RunS.opA (ok_idxN rfl uu rfl uu rfl (fun _ => by omega)) (by kernel_rfl) rfl rfl ?_ | refine RunS.opA (ok_idxP rfl uu rfl uu rfl (fun _ => by omega)) (by kernel_rfl) rfl rfl ?_
  refine RunS.opA (ok_ldPA rfl uu rfl rfl) (by kernel_rfl) rfl rfl ?_; refine RunS.opA (ok_call (fun hp => ct_fAddN r p _ 50000 hpo (hpn.mono (by omega)) (by rw [hmg]; exact (give_NumOk hq.2).mono (by omega)) (by omega)) (.a rfl uu <| .s rfl uu rfl <| .a rfl uu <| .nil)) (by kernel_rfl) rfl rfl ?_; refine RunS.op (ok_move rfl uu) rfl rfl ?_; refine RunS.z (st_B rfl rfl rfl) rfl rfl rfl ?_; refine mw rfl rfl rfl ?_; refine TrL.fin (End.nxt (Tr.ret ?_)); exact Rts.resC (fn := Tryz.f49) (ts := [5]) rfl rfl rfl (aggRd rfl (by rw [hmg, take_give hq.1]; rfl)) (.i rfl (by rfl) <| .nil)

set_option maxRecDepth 100000 in
theorem ct_xApply (x : ExT) (r : RlT) (sg : NvT → Int) (p : NumT) (hop : Ct Tryz.prog 73 [kRd eFd x.1] (kTup [kPtr eReal r, kI 0])) (hpo : PolOk r.2.1) (hs : SgnC r sg) (v : RowsOk (x.2.1, x.2.2.1)) (hl : x.2.2.2.length = x.2.1.length) (hnm : ∀ a, a < x.2.1.length → NumOk 1000 (nth x.2.2.2 a)) (hpos : ∀ a, a < x.2.1.length → 0 < sg (takeN r.2.1 (nth x.2.2.2 a))) (hpn : NumOk 1000 p) (hin : 0 ≤ sg (takeN r.2.1 p) ∧ sg (subV (takeN r.2.1 p) (totV (x.2.2.2.map (takeN r.2.1)) x.2.1)) < 0) : Ct Tryz.prog 20 [kRd eX x, kRd eNum p] (kTup [kRd eNum (giveN (imgV (x.2.1, x.2.2.1) (x.2.2.2.map (takeN r.2.1)) (takeN r.2.1 p) (letV sg (plV (x.2.2.2.map (takeN r.2.1)) x.2.1) x.2.1 (takeN r.2.1 p) (x.2.1.length - 1)))), kI (letV sg (plV (x.2.2.2.map (takeN r.2.1)) x.2.1) x.2.1 (takeN r.2.1 p) (x.2.1.length - 1)), kI 0]) := by
  have hlo : LenOk r.2.1 1035 x.2.1.length (x.2.2.2.map (takeN r.2.1)) := take_LenOk hpo hl hnm
  have hle : x.2.1.length ≤ 8 := v.le
  have hp1 : pmR x.2.1 x.2.1.length := v.p1
  have htt := pt_ok hpo hlo hp1 x.2.1.length (Nat.le_refl _)
  have hpn2 := hpn.mono (show 1000 ≤ 50000 by omega)
  have htg : takeN r.2.1 (giveN (totV (x.2.2.2.map (takeN r.2.1)) x.2.1)) = totV (x.2.2.2.map (takeN r.2.1)) x.2.1 := take_give htt.1
  refine Ct.mk Tryz.func20 rfl Tryz.ntmps20 rfl (fun w J => ?_); refine Tr.seq (Tr.rg ?_); refine TrL.new (ok_box 2 rfl uu rfl) rfl rfl rfl rfl ?_; refine TrL.new (ok_box 3 rfl uu rfl) rfl rfl rfl rfl ?_; refine TrL.new (ok_alloc 4) rfl rfl rfl rfl ?_; refine mw rfl rfl rfl ?_; refine mw rfl rfl rfl ?_; refine TrL.fin (End.nxt (Tr.seq (Tr.rg ?_))); refine tO (ok_ldBS rfl uu) rfl rfl ?_; refine tO (ok_call (fun hp => ct_xopen x r sg hop hpo hs v hl hnm hpos) (.s rfl uu rfl <| .nil)) rfl rfl ?_; refine mv rfl rfl rfl ?_; refine tO (ok_ext rfl uu rfl) rfl rfl ?_
  refine tO (ok_ext rfl uu rfl) rfl rfl ?_; refine mw rfl rfl rfl ?_; refine mw rfl rfl rfl ?_; refine TrL.fin (End.nxt (Tr.seq (Tr.seq (Tr.rg ?_)))); refine mv rfl rfl rfl ?_; refine tO (ok_neq rfl uu rfl uu) rfl rfl ?_; refine TrL.fin (End.nxt ?_); refine Tr.cnd rfl ?_ ?_
  · intro h2
    exact absurd h2 (by decide)
  · intro h2
    refine Tr.skip (End.nxt (Tr.seq (Tr.seq ?_))); refine Tr.draw 6 mixed (by kernel_rfl) ?_; refine rO (ok_move rfl uu) rfl rfl ?_; refine rO (ok_ldBS rfl uu) rfl rfl ?_; refine rO (ok_move rfl uu) rfl rfl ?_; refine rO (ok_nilP rfl uu) rfl rfl ?_; refine rO (ok_fldP rfl uu rfl) rfl rfl ?_; refine rO (ok_ldPA rfl uu rfl rfl) rfl rfl ?_; refine RunD.z ?_; refine tO (ok_call (fun hp => ct_inside r (x.2.1, x.2.2.1) (x.2.2.2.map (takeN r.2.1)) sg p (giveN (totV (x.2.2.2.map (takeN r.2.1)) x.2.1)) hs hpn ((give_NumOk htt.2).mono (by omega)) hpn2) (.a rfl uu <| .s rfl uu rfl <| .a rfl uu <| .nil)) rfl rfl ?_
    refine tO (ok_not rfl uu) rfl rfl ?_; refine TrL.fin (End.nxt ?_); refine Tr.cnd rfl ?_ ?_
    · intro h4
      rw [htg] at h4; simp [hin.1, hin.2] at h4
    · intro h4
      refine Tr.skip (End.nxt (Tr.seq (Tr.rg ?_))); refine mv rfl rfl rfl ?_; refine tO (ok_ldBS rfl uu) rfl rfl ?_; refine tO (ok_call (fun hp => ct_image r (x.2.1, x.2.2.1) (x.2.2.2.map (takeN r.2.1)) sg p hpo hs v hlo hpn) (.a rfl uu <| .s rfl uu rfl <| .nil)) rfl rfl ?_; refine mv rfl rfl rfl ?_; refine tO (ok_ext rfl uu rfl) rfl rfl ?_; refine tO (ok_ext rfl uu rfl) rfl rfl ?_; refine TrL.new (ok_alloc 9) rfl rfl rfl rfl ?_; refine TrL.stB rfl rfl rfl rfl ?_; refine mw rfl rfl rfl ?_; refine TrL.fin (End.nxt (Tr.seq (Tr.rg ?_)))
      refine tO (ok_ldBS rfl uu) rfl rfl ?_; refine mv rfl rfl rfl ?_; refine TrL.stB rfl rfl rfl rfl ?_; refine mw rfl rfl rfl ?_; refine mw rfl rfl rfl ?_; refine TrL.fin (End.nxt (Tr.ret ?_))
      exact Rts.resC (fn := Tryz.f20) (ts := [5, 6]) rfl rfl rfl (aggRd rfl (by first | rfl | omega | simp <;> omega | assumption)) (.i rfl (by first | rfl | omega | simp <;> omega | assumption) <| .i rfl (by first | rfl | omega | simp <;> omega | assumption) <| .nil)

end Go.Fl

/- Lowest terms, as the reference of chapter 1 finds them. No program in sight. -/
namespace Go.Fl
open Go
theorem trim_snoc {xs : List Int} {x : Int} (hx : x ≠ 0) : trimL (xs ++ [x]) = xs ++ [x] := by
  have := trim_take (xs := xs ++ [x]) (m := xs.length + 1) (by simp) (fun i h1 h2 => by simp at h2; omega) (.inr (by simpa [nth] using hx))
  rw [this, List.take_of_length_le (by simp)]
theorem trim_snoc0 {xs : List Int} : trimL (xs ++ [0]) = trimL xs := trim_pad (k := 1)
theorem trim_step {xs : List Int} {k : Nat} (hk : k < xs.length) : (trimL (xs.take (k + 1))).length = if nth xs k = 0 then (trimL (xs.take k)).length else k + 1 := by
  rw [take_succ_nth hk]
  split
  · rename_i h; rw [h, trim_snoc0]
  · rename_i h; rw [trim_snoc h, List.length_append, List.length_take]; simp; omega
theorem ediv_zero_iff {a g : Int} (hg : g ≠ 0) (h : g ∣ a) : a / g = 0 ↔ a = 0 := by
  obtain ⟨q, rfl⟩ := h
  rw [Int.mul_ediv_cancel_left _ hg]
  constructor
  · intro e; rw [e]; simp
  · intro e; exact (Int.mul_eq_zero.1 e).resolve_left hg
theorem trim_div {g : Int} (hg : g ≠ 0) : ∀ {cs : List Int}, (∀ c ∈ cs, g ∣ c) → trimL (cs.map fun c => c / g) = (trimL cs).map fun c => c / g := by
  intro cs h
  obtain ⟨k, h1, _⟩ := trim_app (xs := cs)
  have hz : (cs.map fun c => c / g) = ((trimL cs).map fun c => c / g) ++ List.replicate k 0 := by
    conv => lhs; rw [h1]
    rw [List.map_append, List.map_replicate]
    simp
  rw [hz, trim_pad]
  by_cases hn : trimL cs = []
  · rw [hn]; rfl
  · obtain ⟨xs, x, hx⟩ : ∃ xs x, trimL cs = xs ++ [x] := ⟨_, _, (List.dropLast_concat_getLast hn).symm⟩
    have hl := trim_last hn
    have hx0 : x ≠ 0 := by
      have e : (trimL cs).getLast hn = x := by simp [hx]
      rw [← e]; exact hl
    rw [hx, List.map_append]
    exact trim_snoc fun e => hx0 ((ediv_zero_iff hg (h x (trim_mem (by rw [hx]; simp)))).1 e)
theorem low_give {cs : List Int} {d : Int} (hd : d ≠ 0) : giveN (loN cs d) = (tab (trimL cs).length (fun i => lstZ (nth cs i / sgG d cs)), lstZ (d / sgG d cs)) := by
  unfold giveN loN
  refine Prod.ext ?_ rfl
  show (trimL (cs.map fun c => c / sgG d cs)).map lstZ = _
  rw [trim_div (sgG_ne hd) fun c hc => sgG_dvd (.inr hc)]
  refine ext_nth (by simp [tab]) fun i hi => ?_
  rw [List.length_map, List.length_map] at hi
  rw [nth_tab hi, ← nth_trim]
  simp [nth, hi]
end Go.Fl

/- Contracts: numbers of the reference of chapter 1 in lowest terms. -/
namespace Go.Fl
open Go Go.Proofs
open TrL renaming op → tO
open RunD renaming op → rO

set_option maxRecDepth 100000 in
set_option maxHeartbeats 1000000 in
theorem ct_rlowest (c : List (List Int)) (d : List Int) (hc : ∀ i, InI (nth c i) ∧ (nth c i).length ≤ 100000) (hd : InI d ∧ d.length ≤ 100000) (h0 : val d ≠ 0) (hcl : c.length ≤ 1000) : Ct Tryz.prog 51 [kRd (eL (eL eI)) c, kRd (eL eI) d] (kRd eNum (giveN (loN (c.map val) (val d)))) := by
  have hdd : dl (val d) ≤ 100003 := by have := dl_val hd.1; have := hd.2; omega
  have hgl : ∀ k, dl (gL (val d).natAbs ((c.map val).take k) : Int) ≤ 100003 := fun k => Nat.le_trans (digN_len_le (gL_le (by omega))) hdd
  have hvl : (c.map val).length = c.length := List.length_map ..
  have hnv : ∀ k, nth (c.map val) k = val (nth c k) := fun k => nth_mapv
  have hg0 : (sgG (val d) (c.map val)) ≠ 0 := sgG_ne h0
  have hgd : dl (sgG (val d) (c.map val)) ≤ 100003 := by have := hgl c.length; rw [List.take_of_length_le (by omega)] at this; unfold sgG; split; (rw [dl_neg]; exact this); exact this
  have hgz : val [] = 0 := rfl
  have htl : (trimL (c.map val)).length ≤ c.length := by have := trim_len (xs := (c.map val)); omega
  refine Ct.mk Tryz.func51 rfl Tryz.ntmps51 rfl (fun w J => ?_); refine Tr.seq (Tr.rg ?_); refine TrL.new (ok_alloc 4) rfl rfl rfl rfl ?_; refine TrL.fin (End.nxt (Tr.seq (Tr.rg ?_))); refine mv rfl rfl rfl ?_; refine tO (ok_call (fun hp => ct_rGcd d [] hd.1 (fun _ h => absurd h (Nat.not_lt_zero _)) (by have := hd.2; omega) (by simp)) (.a rfl uu <| .n rfl uu <| .nil)) rfl rfl ?_; refine mw rfl rfl rfl ?_; refine TrL.fin (End.nxt (Tr.seq (Tr.rg ?_))); refine mw rfl rfl rfl ?_; refine TrL.fin (End.nxt (Tr.seq (Tr.seq (Tr.rg ?_)))); refine mw rfl rfl rfl ?_
  refine TrL.fin (End.nxt ?_)
  refine Tr.for1 (σ := Nat) [⟨0, true, _, _⟩, ⟨1, true, _, _⟩, ⟨4, true, _, _⟩] [⟨4, _, _⟩] (fun k => [⟨5, true, [], kRd (eL eI) (digN (gL (val d).natAbs ((c.map val).take k)))⟩, ⟨6, true, [], kI ((trimL ((c.map val).take k)).length : Int)⟩, ⟨7, true, [], kI (k : Int)⟩]) (fun k => []) (fun k => k ≤ c.length) (fun k => k = c.length) (fun k => c.length - k) (0) (by first | rfl | omega | simp <;> omega | assumption) (Ent.mk (.r rfl (by rw [hgz]; simp [gL]) <| .i rfl (by rfl) <| .i rfl (by first | rfl | omega | simp <;> omega | assumption) <| .k rfl rfl <| .k rfl rfl <| .k rfl rfl <| .nil) (.k rfl <| .nil) rfl) ?_ ?_
  · intro k hR0
    refine Tr.norm (S' := [⟨5, true, _, _⟩, ⟨6, true, _, _⟩, ⟨7, true, _, _⟩, ⟨0, true, _, _⟩, ⟨1, true, _, _⟩, ⟨4, true, _, _⟩]) (M' := [⟨4, _, _⟩]) rfl rfl ?_
    have hck := hc k
    refine Tr.seq (Tr.seq (Tr.rg ?_)); refine mv rfl rfl rfl ?_; refine mv rfl rfl rfl ?_; refine tO (ok_lenJ rfl uu) rfl rfl ?_; refine tO (ok_lss rfl uu rfl uu) rfl rfl ?_; refine TrL.fin (End.nxt ?_); refine Tr.cnd rfl ?_ ?_
    · intro h4
      replace h4 := of_decide_eq_true h4
      refine Tr.skip (End.nxt (Tr.seq (Tr.blk (Tr.seq (Tr.rg ?_))))); refine mv rfl rfl rfl ?_; refine mv rfl rfl rfl ?_; refine mv rfl rfl rfl ?_
      first | refine tO (ok_idxN rfl uu rfl uu rfl (fun _ => by omega)) rfl rfl ?_ | refine tO (ok_idxP rfl uu rfl uu rfl (fun _ => by omega)) rfl rfl ?_
      refine tO (ok_ldP rfl uu rfl) rfl rfl ?_; refine tO (ok_call (fun hp => ct_rGcd (digN (gL (val d).natAbs ((c.map val).take k))) (nth c k) (digN_dg _).inI hck.1 (by have := hgl k; unfold dl at this; simp only [Int.natAbs_natCast] at this; omega) (by have := hck.2; omega)) (.a rfl uu <| .a rfl uu <| .nil)) rfl rfl ?_; refine mw rfl rfl rfl ?_; refine TrL.fin (End.nxt (Tr.seq (Tr.rg ?_))); refine mv rfl rfl rfl ?_; refine mv rfl rfl rfl ?_
      first | refine tO (ok_idxN rfl uu rfl uu rfl (fun _ => by omega)) rfl rfl ?_ | refine tO (ok_idxP rfl uu rfl uu rfl (fun _ => by omega)) rfl rfl ?_
      refine tO (ok_ldP rfl uu rfl) rfl rfl ?_; refine tO (ok_call (fun hp => ct_rSign (nth c k) hck.1 (by have := hck.2; omega)) (.a rfl uu <| .nil)) rfl rfl ?_; refine tO (ok_neq rfl uu rfl uu) rfl rfl ?_; refine TrL.fin (End.nxt ?_); refine Tr.cnd rfl ?_ ?_
      · intro h7
        replace h7 := of_decide_eq_true h7
        have hnz : nth (c.map val) k ≠ 0 := fun e => h7 (cmpZ_z.2 (by rw [← hnv]; exact e))
        refine Tr.rg ?_; refine mv rfl rfl rfl ?_; refine tO (ok_add rfl uu rfl uu (fun _ => by omega)) rfl rfl ?_; refine mw rfl rfl rfl ?_; refine TrL.fin (End.blk (End.nxt (Tr.rg ?_))); refine mv rfl rfl rfl ?_; refine tO (ok_add rfl uu rfl uu (fun _ => by omega)) rfl rfl ?_; refine mw rfl rfl rfl ?_; refine TrL.fin ?_
        exact End.lp (k + 1) (by first | rfl | omega | simp <;> omega | assumption) (by omega) (Ent.mk (.r rfl (by rw [digN_val]; refine congrArg digN ?_; have := gL_take (c := (c.map val)) (g := (val d).natAbs) (k := k) (by omega); rw [hnv] at this; simp only [Int.gcd, Int.natAbs_natCast] at this ⊢; omega) <| .i rfl (by rw [trim_step (by omega), if_neg hnz]; rfl) <| .i rfl (by first | rfl | omega | simp <;> omega | assumption) <| .k rfl rfl <| .k rfl rfl <| .k rfl rfl <| .nil) (.k rfl <| .nil) rfl)
      · intro h7
        replace h7 := Classical.not_not.1 (of_decide_eq_false h7)
        have hnz : nth (c.map val) k = 0 := by rw [hnv]; exact cmpZ_z.1 h7
        refine Tr.skip (End.blk (End.nxt (Tr.rg ?_))); refine mv rfl rfl rfl ?_; refine tO (ok_add rfl uu rfl uu (fun _ => by omega)) rfl rfl ?_; refine mw rfl rfl rfl ?_; refine TrL.fin ?_
        exact End.lp (k + 1) (by first | rfl | omega | simp <;> omega | assumption) (by omega) (Ent.mk (.r rfl (by rw [digN_val]; refine congrArg digN ?_; have := gL_take (c := (c.map val)) (g := (val d).natAbs) (k := k) (by omega); rw [hnv] at this; simp only [Int.gcd, Int.natAbs_natCast] at this ⊢; omega) <| .i rfl (by rw [trim_step (by omega), if_pos hnz]) <| .i rfl (by first | rfl | omega | simp <;> omega | assumption) <| .k rfl rfl <| .k rfl rfl <| .k rfl rfl <| .nil) (.k rfl <| .nil) rfl)
    · intro h4
      replace h4 := Int.not_lt.1 (of_decide_eq_false h4)
      refine Tr.exit (Exs.thn (Exs.thn (Exs.here ?_)))
      exact End.cut (k) (by omega) (Ent.mk (.r rfl (by first | rfl | omega | simp <;> omega | assumption) <| .i rfl (by first | rfl | omega | simp <;> omega | assumption) <| .i rfl (by first | rfl | omega | simp <;> omega | assumption) <| .k rfl rfl <| .k rfl rfl <| .k rfl rfl <| .nil) (.k rfl <| .nil) rfl)
  · rintro _ rfl
    refine End.norm (S' := [⟨5, true, _, _⟩, ⟨6, true, _, _⟩, ⟨7, true, _, _⟩, ⟨0, true, _, _⟩, ⟨1, true, _, _⟩, ⟨4, true, _, _⟩]) (M' := [⟨4, _, _⟩]) rfl rfl ?_
    rw [show (c.map val).take c.length = (c.map val) from List.take_of_length_le (by omega)]
    refine End.nxt ?_; refine Tr.meet2 (σ := Unit) [⟨0, true, _, _⟩, ⟨1, true, _, _⟩, ⟨4, true, _, _⟩, ⟨6, true, _, _⟩] [⟨4, _, _⟩] (.k rfl rfl <| .k rfl rfl <| .k rfl rfl <| .k rfl rfl <| .nil) (.k rfl <| .nil) (fun _ => [⟨5, true, [], kRd (eL eI) (lstZ (sgG (val d) (c.map val)))⟩]) (fun _ => []) (fun _ => True) ?_ ?_
    · skip
      refine Tr.seq (Tr.rg ?_); refine mv rfl rfl rfl ?_; refine tO (ok_call (fun hp => ct_rSign d hd.1 (by have := hd.2; omega)) (.a rfl uu <| .nil)) rfl rfl ?_; refine tO (ok_lss rfl uu rfl uu) rfl rfl ?_; refine TrL.fin (End.nxt ?_); refine Tr.cnd rfl ?_ ?_
      · intro h9
        replace h9 := of_decide_eq_true h9
        have h9l : val d < 0 := by unfold cmpZ at h9; split at h9; assumption; split at h9 <;> omega
        refine Tr.rg ?_; refine mv rfl rfl rfl ?_; refine tO (ok_call (fun hp => ct_rNeg (digN (gL (val d).natAbs (c.map val))) (digN_dg _).inI (by have := hgl c.length; rw [List.take_of_length_le (by omega)] at this; unfold dl at this; simp only [Int.natAbs_natCast] at this; omega)) (.a rfl uu <| .nil)) rfl rfl ?_; refine mw rfl rfl rfl ?_; refine TrL.fin ?_
        exact End.cut (()) (by first | rfl | omega | simp <;> omega | assumption) (Ent.mk (.r rfl (by rw [digN_val]; unfold sgG; rw [if_pos h9l]) <| .k rfl rfl <| .k rfl rfl <| .k rfl rfl <| .k rfl rfl <| .nil) (.k rfl <| .nil) rfl)
      · intro h9
        replace h9 := Int.not_lt.1 (of_decide_eq_false h9)
        have h9l : ¬ val d < 0 := fun e => by unfold cmpZ at h9; rw [if_pos e] at h9; omega
        refine Tr.skip ?_
        exact End.cut (()) (by first | rfl | omega | simp <;> omega | assumption) (Ent.mk (.r rfl (by unfold sgG; rw [if_neg h9l, lst_nat]) <| .k rfl rfl <| .k rfl rfl <| .k rfl rfl <| .k rfl rfl <| .nil) (.k rfl <| .nil) rfl)
    · intro _ hM
      refine Tr.norm (S' := [⟨5, true, _, _⟩, ⟨0, true, _, _⟩, ⟨1, true, _, _⟩, ⟨4, true, _, _⟩, ⟨6, true, _, _⟩]) (M' := [⟨4, _, _⟩]) rfl rfl ?_; refine Tr.seq (Tr.rg ?_); refine tO (ok_build (fun hp => .nil)) rfl rfl ?_; refine TrL.new (ok_alloc 8) rfl rfl rfl rfl ?_; refine TrL.stB rfl rfl rfl rfl ?_; refine TrL.fin (End.nxt (Tr.seq (Tr.seq (Tr.rg ?_)))); refine mw rfl rfl rfl ?_; refine TrL.fin (End.nxt ?_); refine Tr.growC 8 0 108 rfl (ks' := [kOsl 108 0, _]) rfl rfl 22 (eL eI) rfl (.cons inferInstance rfl <| .cons inferInstance rfl <| inferInstance) ?_
      refine Tr.for1 (σ := Nat) [⟨0, true, _, _⟩, ⟨1, true, _, _⟩, ⟨4, true, _, _⟩, ⟨5, true, _, _⟩, ⟨6, true, _, _⟩, ⟨8, true, _, _⟩] [⟨4, _, _⟩] (fun k => [⟨9, true, [], kI (k : Int)⟩]) (fun k => [⟨8, [108], cBlk [kOsl 108 k, kDet (.slice none 0 0)]⟩, ⟨108, [], cArr true 22 (eL eI) (tab k fun i => lstZ (nth (c.map val) i / (sgG (val d) (c.map val)))) k⟩]) (fun k => k ≤ (trimL (c.map val)).length) (fun k => k = (trimL (c.map val)).length) (fun k => (trimL (c.map val)).length - k) (0) (by first | rfl | omega | simp <;> omega | assumption) (Ent.mk (.i rfl (by first | rfl | omega | simp <;> omega | assumption) <| .k rfl rfl <| .k rfl rfl <| .k rfl rfl <| .k rfl rfl <| .k rfl rfl <| .k rfl rfl <| .nil) (.e (by rfl) rfl <| .a (by rfl) (by first | rfl | omega | simp <;> omega | assumption) <| .k rfl <| .nil) rfl) ?_ ?_
      · intro k hR1
        refine Tr.norm (S' := [⟨9, true, _, _⟩, ⟨0, true, _, _⟩, ⟨1, true, _, _⟩, ⟨4, true, _, _⟩, ⟨5, true, _, _⟩, ⟨6, true, _, _⟩, ⟨8, true, _, _⟩]) (M' := [⟨8, _, _⟩, ⟨108, _, _⟩, ⟨4, _, _⟩]) rfl rfl ?_
        have hck := hc k
        refine Tr.seq (Tr.seq (Tr.rg ?_)); refine mv rfl rfl rfl ?_; refine mv rfl rfl rfl ?_; refine tO (ok_lss rfl uu rfl uu) rfl rfl ?_; refine TrL.fin (End.nxt ?_); refine Tr.cnd rfl ?_ ?_
        · intro h13
          replace h13 := of_decide_eq_true h13
          refine Tr.skip (End.nxt (Tr.seq (Tr.blk (Tr.seq (Tr.rg ?_))))); refine mv rfl rfl rfl ?_; refine mv rfl rfl rfl ?_
          first | refine tO (ok_idxN rfl uu rfl uu rfl (fun _ => by omega)) rfl rfl ?_ | refine tO (ok_idxP rfl uu rfl uu rfl (fun _ => by omega)) rfl rfl ?_
          refine tO (ok_ldP rfl uu rfl) rfl rfl ?_; refine mv rfl rfl rfl ?_; refine tO (ok_call (fun hp => (by have h := ct_rDivMod (nth c k) (lstZ (sgG (val d) (c.map val))) hck.1 (lst_in _) (by have := hck.2; omega) (by rw [lst_len]; omega); simp only [lst_val, if_neg hg0] at h; exact h)) (.a rfl uu <| .a rfl uu <| .nil)) rfl rfl ?_; refine mv rfl rfl rfl ?_; refine tO (ok_ext rfl uu rfl) rfl rfl ?_; refine tO (ok_ext rfl uu rfl) rfl rfl ?_; refine tO (ok_ext rfl uu rfl) rfl rfl ?_; refine mw rfl rfl rfl ?_; refine mw rfl rfl rfl ?_
          refine mw rfl rfl rfl ?_; refine TrL.fin (End.nxt (Tr.rg ?_)); refine tO (ok_fldO rfl uu) rfl rfl ?_; refine tO (ok_ldB rfl uu rfl) rfl rfl ?_; refine mv rfl rfl rfl ?_; refine TrL.new (ok_bsl (eL eI) 59 (fun hp => .cons rfl <| .nil) rfl rfl rfl rfl) rfl rfl rfl rfl ?_; refine TrL.wkC 8 (.any <| .k <| .nil) rfl ?_
          refine TrL.app rfl rfl rfl rfl rfl rfl rfl rfl (by first | omega | (simp only [List.length_cons, List.length_nil]; omega)) (by first | omega | (simp only [List.length_cons, List.length_nil]; omega)) ?_
          refine TrL.norm (S' := [⟨_, _, _, _⟩, ⟨_, _, _, _⟩, ⟨_, _, _, _⟩, ⟨_, _, _, _⟩, ⟨_, _, _, _⟩, ⟨_, _, _, _⟩, ⟨_, _, _, _⟩, ⟨_, _, _, _⟩, ⟨_, _, _, _⟩, ⟨_, _, _, _⟩, ⟨_, _, _, _⟩, ⟨_, _, _, _⟩, ⟨_, _, _, _⟩, ⟨_, _, _, _⟩, ⟨_, _, _, _⟩, ⟨_, _, _, _⟩, ⟨_, _, _, _⟩, ⟨_, _, _, _⟩, ⟨_, _, _, _⟩, ⟨_, _, _, _⟩, ⟨_, _, _, _⟩, ⟨_, _, _, _⟩, ⟨_, _, _, _⟩, ⟨_, _, _, _⟩, ⟨_, _, _, _⟩, ⟨_, _, _, _⟩, ⟨_, _, _, _⟩, ⟨_, _, _, _⟩]) rfl rfl ?_; refine tO (ok_fldO rfl uu) rfl rfl ?_; refine TrL.stB rfl rfl rfl rfl ?_; refine TrL.fin (End.blk (End.nxt (Tr.rg ?_))); refine mv rfl rfl rfl ?_
          refine tO (ok_add rfl uu rfl uu (fun _ => by omega)) rfl rfl ?_; refine mw rfl rfl rfl ?_; refine TrL.fin ?_
          exact End.lp (k + 1) (by first | rfl | omega | simp <;> omega | assumption) (by omega) (Ent.mk (.i rfl (by first | rfl | omega | simp <;> omega | assumption) <| .k rfl rfl <| .k rfl rfl <| .k rfl rfl <| .k rfl rfl <| .k rfl rfl <| .k rfl rfl <| .nil) (.e (by rfl) rfl <| .a (by rw [tab_succ, hnv]) (by first | rfl | omega | simp <;> omega | assumption) <| .k rfl <| .nil) rfl)
        · intro h13
          replace h13 := Int.not_lt.1 (of_decide_eq_false h13)
          refine Tr.exit (Exs.thn (Exs.thn (Exs.here ?_)))
          exact End.cut (k) (by omega) (Ent.mk (.i rfl (by first | rfl | omega | simp <;> omega | assumption) <| .k rfl rfl <| .k rfl rfl <| .k rfl rfl <| .k rfl rfl <| .k rfl rfl <| .k rfl rfl <| .nil) (.k rfl <| .k rfl <| .k rfl <| .nil) rfl)
      · rintro k hkn
        refine End.norm (S' := [⟨9, true, _, _⟩, ⟨0, true, _, _⟩, ⟨1, true, _, _⟩, ⟨4, true, _, _⟩, ⟨5, true, _, _⟩, ⟨6, true, _, _⟩, ⟨8, true, _, _⟩]) (M' := [⟨8, _, _⟩, ⟨108, _, _⟩, ⟨4, _, _⟩]) rfl rfl ?_; refine End.nxt (Tr.seq ?_); refine Tr.frzC 108 8 (by simp only [lenMax]; omega) rfl rfl ?_; refine Tr.norm (S' := ⟨_, _, _, _⟩ :: ⟨_, _, _, _⟩ :: ⟨_, _, _, _⟩ :: ⟨_, _, _, _⟩ :: ⟨_, _, _, _⟩ :: ⟨_, _, _, _⟩ :: ⟨_, _, _, _⟩ :: []) (M' := [⟨_, _, _⟩, ⟨_, _, _⟩]) rfl rfl ?_; refine Tr.rg ?_; refine mv rfl rfl rfl ?_; refine mv rfl rfl rfl ?_; refine tO (ok_call (fun hp => (by have h := ct_rDivMod (d) (lstZ (sgG (val d) (c.map val))) hd.1 (lst_in _) (by have := hd.2; omega) (by rw [lst_len]; omega); simp only [lst_val, if_neg hg0] at h; exact h)) (.a rfl uu <| .a rfl uu <| .nil)) rfl rfl ?_
        refine mv rfl rfl rfl ?_; refine tO (ok_ext rfl uu rfl) rfl rfl ?_; refine tO (ok_ext rfl uu rfl) rfl rfl ?_; refine tO (ok_ext rfl uu rfl) rfl rfl ?_; refine tO (ok_fldO rfl uu) rfl rfl ?_; refine TrL.stB rfl rfl rfl rfl ?_; refine TrL.fin (End.nxt (Tr.seq (Tr.rg ?_))); refine tO (ok_ldBS rfl uu) rfl rfl ?_; refine TrL.stB rfl rfl rfl rfl ?_; refine TrL.fin (End.nxt (Tr.ret ?_)); exact Rts.resC1 (fn := Tryz.f51) rfl rfl (aggRd rfl (by rw [low_give h0, hkn]))

set_option maxRecDepth 100000 in
theorem ct_rWhole (n : Int) (hn : -9223372036854775808 ≤ n ∧ n ≤ 9223372036854775807) : Ct Tryz.prog 22 [kI n] (kRd eNum (giveN (loN [n] 1))) := by
  refine Ct.mk Tryz.func22 rfl Tryz.ntmps22 rfl (fun w J => ?_); refine Tr.seq (Tr.rg ?_); refine TrL.new (ok_alloc 2) rfl rfl rfl rfl ?_; refine TrL.fin (End.nxt (Tr.seq (Tr.rg ?_))); refine mv rfl rfl rfl ?_; refine TrL.new (ok_bsl eI 4 (fun hp => .cons rfl <| .nil) rfl rfl rfl rfl) rfl rfl rfl rfl ?_; refine TrL.frz 4 [4] ⟨rfl, trivial⟩ (by decide) rfl ?_; refine TrL.norm (S' := [⟨_, _, _, _⟩, ⟨_, _, _, _⟩, ⟨_, _, _, _⟩, ⟨_, _, _, _⟩, ⟨_, _, _, _⟩]) rfl rfl ?_; refine tO (ok_bslJ (eL eI) (fun hp => .cons rfl <| .nil) rfl rfl rfl rfl) rfl rfl ?_; refine tO (ok_bslJ eI (fun hp => .cons rfl <| .nil) rfl rfl rfl rfl) rfl rfl ?_
  refine tO (ok_call (fun hp => ct_rlowest [[n]] [1] (fun i => by match i with | 0 => exact ⟨in1 (by omega), by show 1 ≤ 100000; omega⟩ | i + 1 => exact ⟨fun _ h => absurd h (Nat.not_lt_zero _), by show 0 ≤ 100000; omega⟩) ⟨in1 (by omega), by show 1 ≤ 100000; omega⟩ (by decide) (by simp)) (.a rfl uu <| .a rfl uu <| .nil)) rfl rfl ?_; refine TrL.stB rfl rfl rfl rfl ?_; refine TrL.fin (End.nxt (Tr.ret ?_)); exact Rts.resC1 (fn := Tryz.f22) rfl rfl (aggRd rfl (by rw [show [[n]].map val = [n] by simp [val], val_one]))

end Go.Fl

/- The exchange of two intervals, of lengths 3 and 2. No program in sight. -/
namespace Go.Fl
open Go
theorem give_int {n : Int} : giveN (loN [n] 1) = giveN (intV n) := by
  rw [low_one]
  unfold giveN intV
  have : trimL [n, 0, 0, 0] = trimL [n] := trim_pad (xs := [n]) (k := 3)
  simp only [this]
theorem take_int {n : Int} : takeN [0, 1] (giveN (intV n)) = intV n := take_give (int_RedN pol_rat n)
abbrev tls : List NvT := [intV 3, intV 2]
theorem turn_map : ([giveN (intV 3), giveN (intV 2)] : List (List (List Int) × List Int)).map (takeN [0, 1]) = tls := by simp [take_int]
theorem turn_tot : totV tls [0, 1] = intV 5 := by
  have e : totV tls [0, 1] = adV (adV (intV 0) (intV 3)) (intV 2) := rfl
  rw [e, add_int, add_int]; rfl
theorem turn_top : plV tls [0, 1] = [intV 0, intV 3] := by
  have e : plV tls [0, 1] = [intV 0, adV (intV 0) (intV 3)] := rfl
  rw [e, add_int]; rfl
theorem turn_bot : plV tls [1, 0] = [intV 2, intV 0] := by
  have e : plV tls [1, 0] = [adV (intV 0) (intV 2), intV 0] := rfl
  rw [e, add_int]; rfl
theorem turn_aw : awV ([0, 1], [1, 0]) tls 2 = [intV 2, intV (-3)] := by
  unfold awV
  simp only [turn_top, turn_bot]
  show [subV (intV 2) (intV 0), subV (intV 0) (intV 3)] = _
  rw [sub_int, sub_int]; rfl
theorem sgQ_int {n : Int} : sgQ (intV n) = cmpZ n 0 := rfl
theorem turn_l1 : letV sgQ (plV tls [0, 1]) [0, 1] (intV 1) 1 = 0 := by
  rw [turn_top, letV]
  have e : nth ([intV 0, intV 3] : List NvT) (nth ([0, 1] : List Int) (0 + 1)).toNat = intV 3 := rfl
  rw [e, sub_int, sgQ_int, if_neg (by decide)]; rfl
theorem turn_l3 : letV sgQ (plV tls [0, 1]) [0, 1] (intV 3) 1 = 1 := by
  rw [turn_top, letV]
  have e : nth ([intV 0, intV 3] : List NvT) (nth ([0, 1] : List Int) (0 + 1)).toNat = intV 3 := rfl
  rw [e, sub_int, sgQ_int, if_pos (by decide)]; rfl
theorem turn_i1 : imgV ([0, 1], [1, 0]) tls (intV 1) 0 = intV 3 := by
  unfold imgV
  show adV (intV 1) (nth (awV ([0, 1], [1, 0]) tls 2) 0) = _
  rw [turn_aw]
  show adV (intV 1) (intV 2) = _
  rw [add_int]; rfl
theorem turn_i3 : imgV ([0, 1], [1, 0]) tls (intV 3) 1 = intV 0 := by
  unfold imgV
  show adV (intV 3) (nth (awV ([0, 1], [1, 0]) tls 2) 1) = _
  rw [turn_aw]
  show adV (intV 3) (intV (-3)) = _
  rw [add_int]; rfl
theorem turn_in1 : 0 ≤ sgQ (intV 1) ∧ sgQ (subV (intV 1) (totV tls [0, 1])) < 0 := by
  rw [turn_tot, sub_int]; decide
theorem turn_in3 : 0 ≤ sgQ (intV 3) ∧ sgQ (subV (intV 3) (totV tls [0, 1])) < 0 := by
  rw [turn_tot, sub_int]; decide
end Go.Fl

/- Contracts: the exchange that the laws of chapter 5 begin with is mapped as it should. -/
namespace Go.Fl
open Go Go.Proofs
open TrL renaming op → tO
open RunD renaming op → rO

abbrev turnX : ExT := (ratF, [0, 1], [1, 0], [giveN (intV 3), giveN (intV 2)])
theorem ct_apT (n a q : Int) (hn : -1000 ≤ n ∧ n ≤ 1000) (hin : 0 ≤ sgQ (intV n) ∧ sgQ (subV (intV n) (totV tls [0, 1])) < 0) (hl : letV sgQ (plV tls [0, 1]) [0, 1] (intV n) 1 = a) (hi : imgV ([0, 1], [1, 0]) tls (intV n) a = intV q) : Ct Tryz.prog 20 [kRd eX turnX, kRd eNum (giveN (intV n))] (kTup [kRd eNum (giveN (intV q)), kI a, kI 0]) := by
  have h := ct_xApply turnX ratR sgQ (giveN (intV n)) ct_fOpenRat pol_rat (sgnQ pol_rat rfl) (rows_of (by decide)) rfl (fun k hk => by
    match k, hk with
    | 0, _ => exact (give_NumOk (int_NBd (n := 3) (by omega))).mono (by omega)
    | 1, _ => exact (give_NumOk (int_NBd (n := 2) (by omega))).mono (by omega)
    | k + 2, hk => exact absurd hk (by show ¬ k + 2 < 2; omega)) (fun k hk => by
    match k, hk with
    | 0, _ => show 0 < sgQ (takeN [0, 1] (giveN (intV 3))); rw [take_int]; decide
    | 1, _ => show 0 < sgQ (takeN [0, 1] (giveN (intV 2))); rw [take_int]; decide
    | k + 2, hk => exact absurd hk (by show ¬ k + 2 < 2; omega)) ((give_NumOk (int_NBd (n := n) (by omega))).mono (by omega)) (by
    show 0 ≤ sgQ (takeN [0, 1] (giveN (intV n))) ∧ sgQ (subV (takeN [0, 1] (giveN (intV n))) (totV ([giveN (intV 3), giveN (intV 2)].map (takeN [0, 1])) [0, 1])) < 0
    rw [take_int, turn_map]; exact hin)
  have e1 : turnX.2.2.2.map (takeN ratR.2.1) = tls := turn_map
  have e2 : takeN ratR.2.1 (giveN (intV n)) = intV n := take_int
  rw [e1, e2] at h
  have e3 : letV sgQ (plV tls turnX.2.1) turnX.2.1 (intV n) (turnX.2.1.length - 1) = a := hl
  rw [e3] at h
  have e4 : imgV (turnX.2.1, turnX.2.2.1) tls (intV n) a = intV q := hi
  rw [e4] at h
  exact h
set_option maxRecDepth 100000 in
theorem ct_bLists (a b : List (List Int)) : Ct Tryz.prog 52 [kRd (eL (eL eI)) a, kRd (eL (eL eI)) b] (kB (decide (a = b))) := by
  refine Ct.mk Tryz.func52 rfl Tryz.ntmps52 rfl (fun w J => ?_); refine Tr.fact (s := 0) rfl (fun _ _ h => lenB h) (fun hb => ?_); refine Tr.seq (Tr.rg ?_); refine mw rfl rfl rfl ?_; refine TrL.fin (End.nxt (Tr.seq (Tr.seq (Tr.rg ?_)))); refine mv rfl rfl rfl ?_; refine tO (ok_lenJ rfl uu) rfl rfl ?_; refine mv rfl rfl rfl ?_; refine tO (ok_lenJ rfl uu) rfl rfl ?_; refine tO (ok_neq rfl uu rfl uu) rfl rfl ?_; refine TrL.fin (End.nxt ?_); refine Tr.cnd rfl ?_ ?_
  · intro h1
    replace h1 := of_decide_eq_true h1
    have hne : a ≠ b := fun e => h1 (by rw [e])
    refine Tr.seq (Tr.rg ?_); refine mw rfl rfl rfl ?_; refine TrL.fin (End.nxt (Tr.ret (Rts.thn ?_))); exact Rts.res1 (fn := Tryz.f52) rfl (.b rfl (by symm; rw [decide_eq_false_iff_not]; exact hne) <| .nil)
  · intro h1
    replace h1 := Classical.not_not.1 (of_decide_eq_false h1)
    have hll : a.length = b.length := by omega
    refine Tr.skip (End.nxt (Tr.seq (Tr.seq (Tr.rg ?_)))); refine mw rfl rfl rfl ?_; refine TrL.fin (End.nxt ?_)
    refine Tr.for1 (σ := Nat) [⟨0, true, _, _⟩, ⟨1, true, _, _⟩] [] (fun k => [⟨5, true, [], kI (k : Int)⟩]) (fun k => []) (fun k => k ≤ a.length ∧ ∀ i, i < k → nth a i = nth b i) (fun k => ∀ i, i < a.length → nth a i = nth b i) (fun k => a.length - k) (0) ⟨Nat.zero_le _, fun i h => absurd h (Nat.not_lt_zero _)⟩ (Ent.mk (.i rfl (by first | rfl | omega | simp <;> omega | assumption) <| .k rfl rfl <| .k rfl rfl <| .nil) (.nil) rfl) ?_ ?_
    · rintro k ⟨hk, hR⟩
      refine Tr.norm (S' := [⟨5, true, _, _⟩, ⟨0, true, _, _⟩, ⟨1, true, _, _⟩]) (M' := []) rfl rfl ?_; refine Tr.seq (Tr.seq (Tr.rg ?_)); refine mv rfl rfl rfl ?_; refine mv rfl rfl rfl ?_; refine tO (ok_lenJ rfl uu) rfl rfl ?_; refine tO (ok_lss rfl uu rfl uu) rfl rfl ?_; refine TrL.fin (End.nxt ?_); refine Tr.cnd rfl ?_ ?_
      · intro h4
        replace h4 := of_decide_eq_true h4
        refine Tr.skip (End.nxt (Tr.seq (Tr.blk (Tr.seq ?_)))); refine Tr.draw 8 mixed (by kernel_rfl) ?_; refine rO (ok_move rfl uu) rfl rfl ?_; refine rO (ok_move rfl uu) rfl rfl ?_
        first | refine rO (ok_idxN rfl uu rfl uu rfl (fun _ => by omega)) rfl rfl ?_ | refine rO (ok_idxP rfl uu rfl uu rfl (fun _ => by omega)) rfl rfl ?_
        refine rO (ok_ldP rfl uu rfl) rfl rfl ?_; refine rO (ok_move rfl uu) rfl rfl ?_; refine rO (ok_move rfl uu) rfl rfl ?_
        first | refine rO (ok_idxN rfl uu rfl uu rfl (fun _ => by omega)) rfl rfl ?_ | refine rO (ok_idxP rfl uu rfl uu rfl (fun _ => by omega)) rfl rfl ?_
        refine rO (ok_ldP rfl uu rfl) rfl rfl ?_; refine RunD.z ?_; refine tO (ok_call (fun hp => ct_Ints (nth a k) (nth b k)) (.a rfl uu <| .a rfl uu <| .nil)) rfl rfl ?_; refine tO (ok_not rfl uu) rfl rfl ?_; refine TrL.fin (End.nxt ?_); refine Tr.cnd rfl ?_ ?_
        · intro h6
          have hne : a ≠ b := fun e => by subst e; simp at h6
          refine Tr.seq (Tr.rg ?_); refine mw rfl rfl rfl ?_; refine TrL.fin (End.nxt (Tr.ret (Rts.out (Rts.thn (Rts.thn (Rts.out (Rts.thn (Rts.thn ?_)))))))); exact Rts.res1 (fn := Tryz.f52) rfl (.b rfl (by symm; rw [decide_eq_false_iff_not]; exact hne) <| .nil)
        · intro h6
          have hkk : nth a k = nth b k := by simpa using h6
          refine Tr.skip (End.blk (End.nxt (Tr.rg ?_))); refine mv rfl rfl rfl ?_; refine tO (ok_add rfl uu rfl uu (fun _ => by omega)) rfl rfl ?_; refine mw rfl rfl rfl ?_; refine TrL.fin ?_
          exact End.lp (k + 1) ⟨by omega, fun i hi => by by_cases e : i = k; (rw [e]; exact hkk); exact hR i (by omega)⟩ (by omega) (Ent.mk (.i rfl (by first | rfl | omega | simp <;> omega | assumption) <| .k rfl rfl <| .k rfl rfl <| .nil) (.nil) rfl)
      · intro h4
        replace h4 := Int.not_lt.1 (of_decide_eq_false h4)
        refine Tr.exit (Exs.thn (Exs.thn (Exs.here ?_)))
        exact End.cut (k) (fun i hi => hR i (by omega)) (Ent.mk (.i rfl (by first | rfl | omega | simp <;> omega | assumption) <| .k rfl rfl <| .k rfl rfl <| .nil) (.nil) rfl)
    · rintro k hE
      refine End.norm (S' := [⟨5, true, _, _⟩, ⟨0, true, _, _⟩, ⟨1, true, _, _⟩]) (M' := []) rfl rfl ?_; refine End.nxt (Tr.seq (Tr.rg ?_)); refine mw rfl rfl rfl ?_; refine TrL.fin (End.nxt (Tr.ret ?_)); exact Rts.res1 (fn := Tryz.f52) rfl (.b rfl (by symm; rw [decide_eq_true_eq]; exact ext_nth hll hE) <| .nil)

set_option maxRecDepth 100000 in
theorem ct_bSameNum (a b : NumT) : Ct Tryz.prog 23 [kRd eNum a, kRd eNum b] (kB (decide (a = b))) := by
  refine Ct.mk Tryz.func23 rfl Tryz.ntmps23 rfl (fun w J => ?_); refine Tr.seq (Tr.rg ?_); refine TrL.new (ok_box 2 rfl uu rfl) rfl rfl rfl rfl ?_; refine TrL.new (ok_box 3 rfl uu rfl) rfl rfl rfl rfl ?_; refine mw rfl rfl rfl ?_; refine TrL.fin (End.nxt (Tr.seq (Tr.rg ?_))); refine tO (ok_fldO rfl uu) rfl rfl ?_; refine tO (ok_ldB rfl uu rfl) rfl rfl ?_; refine tO (ok_fldO rfl uu) rfl rfl ?_; refine tO (ok_ldB rfl uu rfl) rfl rfl ?_; refine tO (ok_call (fun hp => ct_bLists _ _) (.a rfl uu <| .a rfl uu <| .nil)) rfl rfl ?_; refine mv rfl rfl rfl ?_
  refine TrL.gd rfl rfl rfl (ok_fldO rfl uu) rfl rfl ?_; refine TrL.gd rfl rfl rfl (ok_ldB rfl id rfl) rfl rfl ?_; refine TrL.gd rfl rfl rfl (ok_fldO rfl uu) rfl rfl ?_; refine TrL.gd rfl rfl rfl (ok_ldB rfl id rfl) rfl rfl ?_; refine TrL.gd rfl rfl rfl (ok_call (fun hp => ct_Ints a.2 b.2) (.a rfl id <| .a rfl id <| .nil)) rfl rfl ?_; refine tO (ok_and rfl uu rfl (fun hp h => gdT2 ((fun _ => rfl) hp) h)) rfl rfl ?_; refine mw rfl rfl rfl ?_; refine TrL.fin (End.nxt (Tr.ret ?_)); exact Rts.res1 (fn := Tryz.f23) rfl (.b rfl (by rw [← Bool.decide_and]; exact decide_eq_decide.2 (Prod.ext_iff).symm) <| .nil)

set_option maxRecDepth 100000 in
theorem ct_turn  : Ct Tryz.prog 21 [] (kRd eX turnX) := by
  refine Ct.mk Tryz.func21 rfl Tryz.ntmps21 rfl (fun w J => ?_); refine Tr.seq (Tr.rg ?_); refine TrL.new (ok_alloc 0) rfl rfl rfl rfl ?_; refine TrL.fin (End.nxt (Tr.seq (Tr.rg ?_))); refine tO (ok_call (fun hp => ct_rRational) (.nil)) rfl rfl ?_; refine TrL.new (ok_bsl eI 2 (fun hp => .cons rfl <| .cons rfl <| .nil) rfl rfl rfl rfl) rfl rfl rfl rfl ?_; refine TrL.frz 2 [2] ⟨rfl, trivial⟩ (by decide) rfl ?_; refine TrL.norm (S' := [⟨_, _, _, _⟩, ⟨_, _, _, _⟩, ⟨_, _, _, _⟩, ⟨_, _, _, _⟩]) rfl rfl ?_; refine TrL.new (ok_bsl eI 3 (fun hp => .cons rfl <| .cons rfl <| .nil) rfl rfl rfl rfl) rfl rfl rfl rfl ?_
  refine TrL.frz 3 [3] ⟨rfl, trivial⟩ (by decide) rfl ?_; refine TrL.norm (S' := [⟨_, _, _, _⟩, ⟨_, _, _, _⟩, ⟨_, _, _, _⟩, ⟨_, _, _, _⟩, ⟨_, _, _, _⟩, ⟨_, _, _, _⟩]) rfl rfl ?_; refine tO (ok_call (fun hp => ct_rWhole 3 (by omega)) (.a rfl uu <| .nil)) rfl rfl ?_; refine tO (ok_call (fun hp => ct_rWhole 2 (by omega)) (.a rfl uu <| .nil)) rfl rfl ?_; refine TrL.new (ok_bsl eNum 6 (fun hp => .cons rfl <| .cons rfl <| .nil) rfl rfl rfl rfl) rfl rfl rfl rfl ?_; refine TrL.frz 6 [6] ⟨rfl, trivial⟩ (by decide) rfl ?_; refine TrL.norm (S' := [⟨_, _, _, _⟩, ⟨_, _, _, _⟩, ⟨_, _, _, _⟩, ⟨_, _, _, _⟩, ⟨_, _, _, _⟩, ⟨_, _, _, _⟩, ⟨_, _, _, _⟩, ⟨_, _, _, _⟩, ⟨_, _, _, _⟩, ⟨_, _, _, _⟩]) rfl rfl ?_
  refine tO (ok_build (fun hp => .cons rfl rfl rfl <| .cons rfl rfl rfl <| .cons rfl rfl rfl <| .cons rfl rfl rfl <| .nil)) rfl rfl ?_; refine TrL.stB rfl rfl rfl rfl ?_; refine TrL.fin (End.nxt (Tr.ret ?_)); exact Rts.resC1 (fn := Tryz.f21) rfl rfl (aggRd rfl (by rw [give_int, give_int]))

set_option maxRecDepth 100000 in
theorem ct_awake  : Ct Tryz.prog 5 [] (kB true) := by
  have hw : ∀ n : Int, -1000 ≤ n ∧ n ≤ 1000 → Ct Tryz.prog 22 [kI n] (kRd eNum (giveN (intV n))) := fun n hn => by have h := ct_rWhole n (by omega); rw [give_int] at h; exact h
  refine Ct.mk Tryz.func5 rfl Tryz.ntmps5 rfl (fun w J => ?_); refine Tr.seq (Tr.rg ?_); refine mw rfl rfl rfl ?_; refine TrL.fin (End.nxt (Tr.seq (Tr.rg ?_))); refine tO (ok_call (fun hp => ct_turn) (.nil)) rfl rfl ?_; refine tO (ok_call (fun hp => hw 1 (by omega)) (.a rfl uu <| .nil)) rfl rfl ?_; refine tO (ok_call (fun hp => ct_apT 1 0 3 (by omega) turn_in1 turn_l1 turn_i1) (.a rfl uu <| .a rfl uu <| .nil)) rfl rfl ?_; refine mv rfl rfl rfl ?_; refine tO (ok_ext rfl uu rfl) rfl rfl ?_; refine tO (ok_ext rfl uu rfl) rfl rfl ?_; refine tO (ok_ext rfl uu rfl) rfl rfl ?_
  refine TrL.new (ok_alloc 1) rfl rfl rfl rfl ?_; refine TrL.stB rfl rfl rfl rfl ?_; refine mw rfl rfl rfl ?_; refine mw rfl rfl rfl ?_; refine TrL.fin (End.nxt (Tr.seq (Tr.rg ?_))); refine tO (ok_call (fun hp => ct_turn) (.nil)) rfl rfl ?_; refine tO (ok_call (fun hp => hw 3 (by omega)) (.a rfl uu <| .nil)) rfl rfl ?_; refine tO (ok_call (fun hp => ct_apT 3 1 0 (by omega) turn_in3 turn_l3 turn_i3) (.a rfl uu <| .a rfl uu <| .nil)) rfl rfl ?_; refine mv rfl rfl rfl ?_; refine tO (ok_ext rfl uu rfl) rfl rfl ?_; refine tO (ok_ext rfl uu rfl) rfl rfl ?_
  refine tO (ok_ext rfl uu rfl) rfl rfl ?_; refine TrL.new (ok_alloc 4) rfl rfl rfl rfl ?_; refine TrL.stB rfl rfl rfl rfl ?_; refine mw rfl rfl rfl ?_; refine mw rfl rfl rfl ?_; refine TrL.fin (End.nxt (Tr.seq ?_)); refine Tr.draw 18 mixed (by kernel_rfl) ?_; refine rO (ok_move rfl uu) rfl rfl ?_; refine rO (ok_eql rfl uu rfl uu) rfl rfl ?_; refine rO (ok_move rfl uu) rfl rfl ?_; refine RunD.gd rfl rfl rfl (ok_move rfl uu) rfl rfl ?_; refine RunD.gd rfl rfl rfl (ok_eql rfl id rfl uu) rfl rfl ?_; refine rO (ok_and rfl uu rfl (fun hp h => gdT2 ((fun _ => rfl) hp) h)) rfl rfl ?_
  refine rO (ok_move rfl uu) rfl rfl ?_; refine RunD.gd rfl rfl rfl (ok_ldBS rfl uu) rfl rfl ?_; refine RunD.gd rfl rfl rfl (ok_call (fun hp => hw 3 (by omega)) (.a rfl uu <| .nil)) rfl rfl ?_; refine RunD.gd rfl rfl rfl (ok_call (fun hp => ct_bSameNum _ _) (.s rfl id rfl <| .a rfl id <| .nil)) rfl rfl ?_; refine rO (ok_and rfl uu rfl (fun hp h => gdT2 ((fun _ => rfl) hp) h)) rfl rfl ?_; refine rO (ok_move rfl uu) rfl rfl ?_; refine RunD.gd rfl rfl rfl (ok_move rfl uu) rfl rfl ?_; refine RunD.gd rfl rfl rfl (ok_eql rfl id rfl uu) rfl rfl ?_; refine rO (ok_and rfl uu rfl (fun hp h => gdT2 ((fun _ => rfl) hp) h)) rfl rfl ?_
  refine rO (ok_move rfl uu) rfl rfl ?_; refine RunD.gd rfl rfl rfl (ok_ldBS rfl uu) rfl rfl ?_; refine RunD.gd rfl rfl rfl (ok_call (fun hp => hw 0 (by omega)) (.a rfl uu <| .nil)) rfl rfl ?_; refine RunD.z ?_; refine TrL.gd rfl rfl rfl (ok_call (fun hp => ct_bSameNum _ _) (.s rfl id rfl <| .a rfl id <| .nil)) rfl rfl ?_; refine tO (ok_and rfl uu rfl (fun hp h => gdT2 ((fun _ => rfl) hp) h)) rfl rfl ?_; refine mv rfl rfl rfl ?_; refine TrL.gd rfl rfl rfl (ok_move rfl uu) rfl rfl ?_; refine TrL.gd rfl rfl rfl (ok_eql rfl id rfl uu) rfl rfl ?_; refine tO (ok_and rfl uu rfl (fun hp h => gdT2 ((fun _ => rfl) hp) h)) rfl rfl ?_
  refine mw rfl rfl rfl ?_; refine TrL.fin (End.nxt (Tr.ret ?_)); exact Rts.res1 (fn := Tryz.f5) rfl (.b rfl (by simp) <| .nil)

end Go.Fl

/- The wrap of a law whose code reads package variables: the world's shape and the listed data are both at hand. -/
namespace Go.Fl
open Go Go.RowKit
theorem CtG.law {G : JV → Prop} {P : Program} {f : FuncId} {args : List Know} (h : CtG G P f args (kB true)) {W : World} (hG : G (memJ W)) {vs : Array Value} (hv : allK ⟨memJ W, noM⟩ args vs.toList) {Q : Ending → World → Prop} (hq : ∀ W', Below W.heap.size W W' → Q (.returned (.bool true)) W') : Calls P f vs W Q := by
  have := h W (memJ W) hG (memJ_im W) vs.toList hv
  refine this.mono fun e W' ⟨r, J', he, hb, _, _, _, hr⟩ => ?_
  subst he
  rw [show r = .bool true from hr]
  exact hq W' hb
theorem handed_shaped {H : Type} {enc : TypeId × Value → H} {a : Assume} {C : Checked} {os : Os} {f : FuncId} {fn : Func} {s : ChangeSpec} {conds : List PathCond} {apart fresh handsOn again : Bool} {X : World → Array Value → Prop}
    (hX : ∀ (w w' : World) (args : Array Value), w.heap = w'.heap → X w args → X w' args)
    (own : ownKnob C.prog.godebug = none) (started : os.Started) (noInit : C.prog.inits.idxOf? f = none) (hfn : C.prog.funcs[f]? = some fn)
    (witness : ∃ (w : World) (tape : Tape) (i : Input), w.os = os ∧ (w.forCall tape i).Shaped C.prog ∧ i.vars = [] ∧ Input.okWide C.prog (w.forCall tape i) .any w.heap.size f i ∧
      ((s.pre enc C.prog fn conds apart (w.forCall tape i).memory i.args ∧ X (w.forCall tape i).memory i.args) ∧ sizedMet enc C.prog fn (OpenSpec.ofChange s) apart (w.forCall tape i).memory i.args) ∧ a.holds C.prog (lone (Frame.enter C.prog f i.args .normal) [] (w.forCall tape i)))
    (contract : ∀ (W : World) (base : Nat) (args : Array Value) (ds gs : List (DataW H)) (before : List MemPlace),
      (∀ (j : Nat) t v, fn.params[j]? = some t → args[j]? = some v → Value.okWide C.prog W .any base t v) →
      DataW.Whole enc C.prog fn.params.toList s.vars apart W args.toList ds gs before →
      conds.all (PathCond.test C.prog ⟨fn.params.toList, ds, s.plain.varTypes C.prog, gs⟩) = true →
      (DataW.weightsEach C.prog (fn.params.toList ++ s.plain.varTypes C.prog) (ds ++ gs)).all (· ≤ reachBytes) = true → X W args → W.ShapedOpen C.prog →
      Calls C.prog f args W fun e W' => ∃ v, e = .returned v ∧ s.post enc C.prog fn apart fresh handsOn again W args v W') :
    ReturnsInHanded a C os f .any (fun w args => (s.pre enc C.prog fn conds apart w args ∧ X w args) ∧ sizedMet enc C.prog fn (OpenSpec.ofChange s) apart w args) (s.post enc C.prog fn apart fresh handsOn again) := by
  refine returnsInHanded_of_calls own started noInit witness ?_
  intro w tape i _ hsh _ hok hpre _
  obtain ⟨_, _, _, fn', hfn', _, _, _, _, hval⟩ := hok
  have e : fn' = fn := Option.some.inj (hfn'.symm.trans hfn)
  subst e
  obtain ⟨⟨⟨ds, gs, before, hw, hc⟩, hx⟩, hz⟩ := hpre
  have hw' := DataW.Whole.of_heap (w' := w.forCall tape i) (by rfl) hw
  refine (contract (w.forCall tape i) w.heap.size i.args ds gs before hval hw' hc (hz.weights hw) (hX _ _ _ (by rfl) hx) hsh).mono fun e W' ⟨v, he, hp⟩ => ?_
  subst he
  exact ChangeSpec.post_blind hp
end Go.Fl

/- THE LAW ExchangeRows HOLDS FOR EVERY INPUT: whatever the arguments, the call returns true, and each argument reads behind it as before. Conditions: those of the given row (its listed variables as the program lays them). -/
namespace Go.Proofs.YtdndmmbonlkkgaaGreatDoor
open Go Go.Fl Go.RowKit Go.ChangeShapes Go.WideShapes Go.ChangeAt

theorem rdt22 : RdT Tryz.prog 22 (eL eI) (ListP (okI .i64)) := RdT.slice RdT.int rfl rfl rfl
theorem rdt24t : RdT Tryz.prog 24 (eP (eL eI) (eP (eL eI) eU)) (AndP (ListP (okI .i64)) (AndP (ListP (okI .i64)) UnitP)) := by
  refine RdT.struct (l := [_, _]) Tryz.underlying24 rfl (by kernel_rfl) ?_
  refine FldT.cons rdt22 (by rfl) (by rfl) (by rfl) ?_
  refine FldT.cons rdt22 (by rfl) (by rfl) (by rfl) ?_
  exact FldT.nil
theorem rdt24 : RdT Tryz.prog 24 eO (fun o : Ori => ListP (okI .i64) o.1 ∧ ListP (okI .i64) o.2) := RdT.conv rdt24t (fun x => ((x.1, x.2.1) : Ori)) (fun _ _ _ h => h) (fun _ h => ⟨h.1, h.2.1⟩)
theorem rowErr (u : TypeId) (h : Tryz.prog.typeName? 3 u = some "*errors.errorString") : u = 227 :=
  typeName_ptr_named (nm := "errors.errorString") (by rw [show "*" ++ "errors.errorString" = "*errors.errorString" by decide]; kernel_rfl) (by kernel_rfl) (by decide) u (by rw [show "*" ++ "errors.errorString" = "*errors.errorString" by decide]; exact h)
theorem gv_of {W : World} (hsh : W.ShapedOpen Tryz.prog) (hL : laidMetH Tryz.prog Rows.exchangeRowsRow.laid W) : GV (memJ W) := by
  rw [MakeChecks.laidMetH_plain _ _ _ (by kernel_rfl)] at hL
  have hL4 := hL.tail.tail.tail.tail
  obtain ⟨aR, _, hR, _, _, _⟩ := laid_sentinel (g := Tryz.laysAt_ren.g 16) (ti := 70) (tp := 227) (te := 229) (ts := 9) hL4 (by kernel_rfl) (by kernel_rfl) Tryz.underlying70 rowErr Tryz.underlying227 Tryz.underlying229 rfl rfl (by kernel_rfl) (by kernel_rfl) (by kernel_rfl)
  obtain ⟨aS, _, hS, _, _, _⟩ := laid_sentinel (g := Tryz.laysAt_ren.g 15) (ti := 70) (tp := 227) (te := 229) (ts := 9) hL4.tail (by kernel_rfl) (by kernel_rfl) Tryz.underlying70 rowErr Tryz.underlying227 Tryz.underlying229 rfl rfl (by kernel_rfl) (by kernel_rfl) (by kernel_rfl)
  exact ⟨Tryz.laysS.s1_3 W hsh, ⟨227, .pointer (some aS), (World.var?_cell Tryz.laysAt.m15 hS 0).trans rfl⟩, ⟨227, .pointer (some aR), (World.var?_cell Tryz.laysAt.m16 hR 0).trans rfl⟩⟩
theorem own : ownKnob Tryz.prog.godebug = none := by kernel_rfl
set_option maxRecDepth 100000 in
theorem lifted (os : Os) (started : os.Started) (H : Type) (enc : TypeId × Value → H) :
    ReturnsInHanded {} Tryz.checked os 3 .any (fun w args => (Rows.exchangeRowsSpec.pre enc Tryz.prog Tryz.f3 [] false w args ∧ laidMetH Tryz.prog Rows.exchangeRowsRow.laid w) ∧ sizedMet enc Tryz.prog Tryz.f3 (OpenSpec.ofChange Rows.exchangeRowsSpec) false w args)
      (Rows.exchangeRowsSpec.post enc Tryz.prog Tryz.f3 false true false false) := by
  refine handed_shaped (C := Tryz.checked) (X := fun w _ => laidMetH Tryz.prog Rows.exchangeRowsRow.laid w) (fun _ _ _ hh h => h.of_heap hh) own started (by kernel_rfl) Tryz.func3
    (ChangeSpec.witness_shaped (enc := enc) (C := Tryz.checked) (os := os) (X := fun w _ => laidMetH Tryz.prog Rows.exchangeRowsRow.laid w) false (World.laidAll Tryz.prog os Rows.exchangeRowsRow.laid) #[.agg #[.slice none 0 0, .slice none 0 0], .string ⟨#[]⟩] 8 (World.laidAll_os _ _ _)
      (World.shaped_of_ZipB (by kernel_rfl) (by kernel_rfl)) (by kernel_rfl) (by kernel_rfl) (by kernel_rfl)
      (by rw [MakeChecks.laidMetH_plain _ _ _ (by kernel_rfl)]; exact laidMet_laidAll _ (by kernel_rfl) (by kernel_rfl))) ?_
  intro W base args ds gs before hval0 hW _ hwt hL hsh
  have hval : ∀ (j : Nat) t v, Tryz.f3.params[j]? = some t → args[j]? = some v → Value.okWide Tryz.prog W .any base t v := hval0
  have hpost : ∀ W', Fl.Below W.heap.size W W' → Rows.exchangeRowsSpec.post enc Tryz.prog Tryz.f3 false true false false W args (.bool true) W' := fun W' hb => law_post (by kernel_rfl) (by kernel_rfl) (by kernel_rfl) hW (by kernel_rfl) rfl (fun hg => by
    subst hg
    obtain ⟨p, q, hA0, _⟩ := hW
    have hA : DataW.TrodAll enc Tryz.prog W 0 (fun _ => true) true Tryz.f3.params.toList args.toList ds p := hA0
    rw [Tryz.params3] at hA
    obtain ⟨v0, v1, d0, d1, _, _, rfl, rfl, _, _, _⟩ := trodAll_two hA
    rfl) rfl Tryz.underlying4 hb
  have hW0 := hW
  obtain ⟨p, q, hA0, hV, rfl, _, _⟩ := hW0
  have hA : DataW.TrodAll enc Tryz.prog W 0 (fun _ => true) true Tryz.f3.params.toList args.toList ds p := hA0
  rw [Tryz.params3] at hA hval hwt
  obtain ⟨rfl, rfl⟩ := trodVars_none hV
  obtain ⟨v0, v1, d0, d1, _, _, rfl, rfl, _, h0, h1⟩ := trodAll_two hA
  have hwt' : (DataW.weightsEach Tryz.prog [24, 9] [d0, d1]).all (· ≤ reachBytes) = true := hwt
  have w0 := weights_cons hwt'
  have w1 := weights_cons w0.2
  obtain ⟨x0, k0, r0⟩ := RdT.val (by exact rdt24 : RdT Tryz.prog 24 eO (fun o : Ori => ListP (okI .i64) o.1 ∧ ListP (okI .i64) o.2)) rfl (hval 0 24 v0 rfl rfl) h0 w0.1
  obtain ⟨x1, k1, r1⟩ := RdT.val (by exact RdT.str : RdT Tryz.prog 9 eStr StrP) rfl (hval 1 9 v1 rfl rfl) h1 w1.1
  refine CtG.law (hG := gv_of hsh hL) (vs := #[v0, v1]) (ct_ExchangeRows x0 x1 ct_awake) ?_ fun W' hb => ⟨_, rfl, hpost W' hb⟩
  exact ⟨k0, (kS_rd k1), trivial⟩
theorem holds : Rows.exchangeRowsRow.holds Tryz.pinned (OpenSpec.ofChange Rows.exchangeRowsSpec) :=
  OpenClaim.holds_of_wide 3 Tryz.f3 rfl rfl rfl rfl rfl rfl rfl ⟨rfl, rfl, rfl, rfl, rfl⟩ rfl rfl rfl rfl rfl (by kernel_rfl) Tryz.func3 (by kernel_rfl)
    (of_decide_eq_true (by kernel_rfl)) (by unfold Func.isWrapper; first | (rw [if_pos (by decide +kernel)]; kernel_rfl) | (rw [if_neg (by decide +kernel)]; exact ⟨rfl, rfl⟩))
    (fun os started H enc _ => lifted os started H enc)
theorem exchangeRows_holds : Rows.ExchangeRowsCardSaid :=
  Claim7.holds_tied_plain_at .later [] [.data, .data, .data, .data, .sentinel, .sentinel, .pinned] true (true, "fe9d9e79805fdec6b07e90317abba580d49e926f4cb84a17386f28a3aa03934d") true holds (fun _ h => by cases h) (by kernel_rfl) (fun _ h => by cases h) exchangeRows_row_tie rfl ⟨rfl, rfl⟩ (by kernel_rfl) rfl
    (fun f fn hf hfn => by
      obtain rfl : f = 3 := Option.some.inj ((show Tryz.prog.funcNamed Rows.exchangeRowsRow.func = some 3 by kernel_rfl).symm.trans hf) |>.symm
      obtain rfl : fn = Tryz.f3 := (Option.some.inj (Tryz.func3.symm.trans hfn)).symm
      exact ⟨by kernel_rfl, fun j t ht => by
        rw [Tryz.params3] at ht
        have hm : t ∈ [24, 9] := by simpa using Array.mem_of_getElem? ht
        have hall : ([24, 9].all fun u => !Tryz.prog.wantsStandIn u) = true := by kernel_rfl
        exact (show Tryz.prog.wantsStandIn t = false by simpa using List.all_eq_true.1 hall t hm)⟩)
    (by kernel_rfl)
end Go.Proofs.YtdndmmbonlkkgaaGreatDoor
