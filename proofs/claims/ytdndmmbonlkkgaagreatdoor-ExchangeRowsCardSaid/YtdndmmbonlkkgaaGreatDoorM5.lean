/- Laws on walking typed knowledge through code, and contracts. -/
import Derived.Test.YtdndmmbonlkkgaaGreatDoorM4
import Derived.Laws.CopyRow

/- Contracts: integers of the reference of chapter 1. -/
namespace Go.Fl
open Go Go.Proofs
open TrL renaming op → tO
open RunD renaming op → rO

set_option maxRecDepth 100000 in
theorem ct_rsplit (n : Int) (hn : -9223372036854775808 ≤ n ∧ n ≤ 9223372036854775807) : Ct Tryz.prog 165 [kI n] (kTup [kI (n / 100000000), kI (n % 100000000)]) := by
  obtain ⟨hq1, hq2, hq3⟩ := td8 n
  refine Ct.mk Tryz.func165 rfl Tryz.ntmps165 rfl (fun w J => ?_); refine Tr.seq (Tr.rg ?_); refine mw rfl rfl rfl ?_; refine mw rfl rfl rfl ?_; refine TrL.fin (End.nxt (Tr.seq (Tr.rg ?_))); refine mv rfl rfl rfl ?_; refine tO (ok_quo rfl uu rfl uu (fun _ => by omega)) rfl rfl ?_; refine mv rfl rfl rfl ?_; refine tO (ok_rem rfl uu rfl uu (fun _ => by omega)) rfl rfl ?_; refine mw rfl rfl rfl ?_; refine mw rfl rfl rfl ?_; refine TrL.fin (End.nxt (Tr.seq (Tr.seq (Tr.rg ?_)))); refine mv rfl rfl rfl ?_
  refine tO (ok_lss rfl uu rfl uu) rfl rfl ?_; refine TrL.fin (End.nxt ?_); refine Tr.cnd rfl ?_ ?_
  · intro h2
    replace h2 := of_decide_eq_true h2
    refine Tr.seq (Tr.rg ?_); refine mv rfl rfl rfl ?_; refine tO (ok_sub rfl uu rfl uu (fun _ => by omega)) rfl rfl ?_; refine mv rfl rfl rfl ?_; refine tO (ok_add rfl uu rfl uu (fun _ => by omega)) rfl rfl ?_; refine mw rfl rfl rfl ?_; refine mw rfl rfl rfl ?_; refine TrL.fin (End.nxt (Tr.ret (Rts.thn ?_))); exact Rts.res (fn := Tryz.f165) (ts := [2, 3]) rfl rfl (.i rfl (by omega) <| .i rfl (by omega) <| .nil)
  · intro h2
    replace h2 := Int.not_lt.1 (of_decide_eq_false h2)
    refine Tr.skip (End.nxt (Tr.seq (Tr.rg ?_))); refine mv rfl rfl rfl ?_; refine mv rfl rfl rfl ?_; refine mw rfl rfl rfl ?_; refine mw rfl rfl rfl ?_; refine TrL.fin (End.nxt (Tr.ret ?_)); exact Rts.res (fn := Tryz.f165) (ts := [2, 3]) rfl rfl (.i rfl (by omega) <| .i rfl (by omega) <| .nil)

set_option maxRecDepth 100000 in
theorem ct_rtrim (xs : List Int) (hn : xs.length ≤ 10000000) : Ct Tryz.prog 166 [kRd (eL eI) xs] (kRd (eL eI) (trimL xs)) := by
  refine Ct.mk Tryz.func166 rfl Tryz.ntmps166 rfl (fun w J => ?_); refine Tr.seq (Tr.rg ?_); refine mw rfl rfl rfl ?_; refine TrL.fin (End.nxt (Tr.seq (Tr.rg ?_))); refine mv rfl rfl rfl ?_; refine tO (ok_lenJ rfl uu) rfl rfl ?_; refine mw rfl rfl rfl ?_; refine TrL.fin (End.nxt ?_)
  refine Tr.for (σ := Nat) [⟨0, true, _, _⟩] [] (fun m => [⟨3, true, [], kI (m : Int)⟩]) (fun m => []) (fun m => m ≤ xs.length ∧ ∀ i, m ≤ i → i < xs.length → nth xs i = 0) (fun m => m ≤ xs.length ∧ trimL xs = xs.take m) (fun m => m) (xs.length) ⟨by omega, fun i h1 h2 => absurd h1 (by omega)⟩ (Ent.mk (.i rfl (by first | rfl | omega | simp <;> omega | assumption) <| .k rfl rfl <| .nil) (.nil) rfl) ?_ ?_
  · rintro m ⟨hm, hz⟩
    refine Tr.norm (S' := [⟨3, true, _, _⟩, ⟨0, true, _, _⟩]) (M' := []) rfl rfl ?_
    have e1 : 0 < m → ((m : Int) - 1).toNat = m - 1 := fun h => by omega
    refine Tr.seq (Tr.seq (Tr.rg ?_)); refine mv rfl rfl rfl ?_; refine tO (ok_gtr rfl uu rfl uu) rfl rfl ?_; refine mv rfl rfl rfl ?_; refine TrL.gd rfl rfl rfl (ok_move rfl uu) rfl rfl ?_; refine TrL.gd rfl rfl rfl (ok_move rfl uu) rfl rfl ?_; refine TrL.gd rfl rfl rfl (ok_sub rfl id rfl uu (fun hp => by simp at hp; omega)) rfl rfl ?_
    first | refine TrL.gd rfl rfl rfl (ok_idxN rfl id rfl id rfl (fun hp => by simp at hp; omega)) rfl rfl ?_ | refine TrL.gd rfl rfl rfl (ok_idxP rfl id rfl id rfl (fun hp => by simp at hp; omega)) rfl rfl ?_
    refine TrL.gd rfl rfl rfl (ok_ldP rfl id rfl) rfl rfl ?_; refine TrL.gd rfl rfl rfl (ok_eql rfl id rfl uu) rfl rfl ?_; refine tO (ok_and rfl uu rfl (fun hp h => gdT2 ((fun _ => rfl) hp) h)) rfl rfl ?_; refine TrL.fin (End.nxt ?_); refine Tr.cnd rfl ?_ ?_
    · intro h2
      try simp only [decide_eq_true_eq, Bool.and_eq_true] at h2
      refine Tr.skip (End.nxt (Tr.blk (Tr.rg ?_))); refine mv rfl rfl rfl ?_; refine tO (ok_sub rfl uu rfl uu (fun _ => by omega)) rfl rfl ?_; refine mw rfl rfl rfl ?_; refine TrL.fin (End.blk ?_)
      exact End.lp (m - 1) ⟨by omega, fun i h3 h4 => by (by_cases e : i = m - 1; subst e; rw [← e1 (by omega)]; exact h2.2; exact hz i (by omega) h4)⟩ (by omega) (Ent.mk (.i rfl (by first | rfl | omega | simp <;> omega | assumption) <| .k rfl rfl <| .nil) (.nil) rfl)
    · intro h2
      try simp only [decide_eq_true_eq, decide_eq_false_iff_not, Bool.and_eq_false_imp] at h2
      refine Tr.exit (Exs.thn (Exs.thn (Exs.here ?_)))
      exact End.cut (m) ⟨hm, trim_take hm hz (by by_cases e : m = 0; exact .inl e; exact .inr (by rw [← e1 (by omega)]; exact h2 (by omega)))⟩ (Ent.mk (.i rfl (by first | rfl | omega | simp <;> omega | assumption) <| .k rfl rfl <| .nil) (.nil) rfl)
  · rintro m ⟨hm, hE⟩
    refine Tr.norm (S' := [⟨3, true, _, _⟩, ⟨0, true, _, _⟩]) (M' := []) rfl rfl ?_
    have htl := trim_len (xs := xs)
    have hz0 : ([] : List Int).length = 0 := rfl
    have htk : (xs.take m).length = m := by rw [List.length_take]; omega
    have e2 : ((m : Nat) : Int).toNat = m := rfl
    refine Tr.seq (Tr.rg ?_); refine TrL.new (ok_bsl0 eI 18) rfl rfl rfl rfl ?_; refine mv rfl rfl rfl ?_; refine mv rfl rfl rfl ?_; refine tO (ok_slJh rfl uu rfl uu (fun _ => by omega)) rfl rfl ?_; refine TrL.app rfl rfl rfl rfl rfl rfl rfl rfl (by rw [e2]; omega) (by rw [e2]; omega) ?_; refine TrL.norm (S' := [⟨_, _, _, _⟩, ⟨_, _, _, _⟩, ⟨_, _, _, _⟩, ⟨_, _, _, _⟩, ⟨_, _, _, _⟩, ⟨_, _, _, _⟩, ⟨_, _, _, _⟩]) rfl rfl ?_; refine mw rfl rfl rfl ?_; refine TrL.fin (End.nxt ?_); refine Tr.frz 18 [2] ⟨rfl, trivial⟩ (by rw [e2]; simp only [lenMax]; omega) rfl ?_
    refine Tr.ret ?_; exact Rts.res1 (fn := Tryz.f166) rfl (.r rfl (by rw [List.nil_append, hE]; rfl) <| .nil)

set_option maxRecDepth 100000 in
theorem ct_rtrimN (xs : List Int) (hn : xs.length ≤ 10000000) : CtN Tryz.prog 166 [kRd (eL eI) xs] (fun t => kOsl t (trimL xs).length) (cArr false 3 eI (trimL xs) (trimL xs).length) := by
  refine CtN.mk Tryz.func166 rfl Tryz.ntmps166 rfl (fun w J => ?_); refine Tr.seq (Tr.rg ?_); refine mw rfl rfl rfl ?_; refine TrL.fin (End.nxt (Tr.seq (Tr.rg ?_))); refine mv rfl rfl rfl ?_; refine tO (ok_lenJ rfl uu) rfl rfl ?_; refine mw rfl rfl rfl ?_; refine TrL.fin (End.nxt ?_)
  refine Tr.for (σ := Nat) [⟨0, true, _, _⟩] [] (fun m => [⟨3, true, [], kI (m : Int)⟩]) (fun m => []) (fun m => m ≤ xs.length ∧ ∀ i, m ≤ i → i < xs.length → nth xs i = 0) (fun m => m ≤ xs.length ∧ trimL xs = xs.take m) (fun m => m) (xs.length) ⟨by omega, fun i h1 h2 => absurd h1 (by omega)⟩ (Ent.mk (.i rfl (by first | rfl | omega | simp <;> omega | assumption) <| .k rfl rfl <| .nil) (.nil) rfl) ?_ ?_
  · rintro m ⟨hm, hz⟩
    refine Tr.norm (S' := [⟨3, true, _, _⟩, ⟨0, true, _, _⟩]) (M' := []) rfl rfl ?_
    have e1 : 0 < m → ((m : Int) - 1).toNat = m - 1 := fun h => by omega
    refine Tr.seq (Tr.seq (Tr.rg ?_)); refine mv rfl rfl rfl ?_; refine tO (ok_gtr rfl uu rfl uu) rfl rfl ?_; refine mv rfl rfl rfl ?_; refine TrL.gd rfl rfl rfl (ok_move rfl uu) rfl rfl ?_; refine TrL.gd rfl rfl rfl (ok_move rfl uu) rfl rfl ?_; refine TrL.gd rfl rfl rfl (ok_sub rfl id rfl uu (fun hp => by simp at hp; omega)) rfl rfl ?_
    first | refine TrL.gd rfl rfl rfl (ok_idxN rfl id rfl id rfl (fun hp => by simp at hp; omega)) rfl rfl ?_ | refine TrL.gd rfl rfl rfl (ok_idxP rfl id rfl id rfl (fun hp => by simp at hp; omega)) rfl rfl ?_
    refine TrL.gd rfl rfl rfl (ok_ldP rfl id rfl) rfl rfl ?_; refine TrL.gd rfl rfl rfl (ok_eql rfl id rfl uu) rfl rfl ?_; refine tO (ok_and rfl uu rfl (fun hp h => gdT2 ((fun _ => rfl) hp) h)) rfl rfl ?_; refine TrL.fin (End.nxt ?_); refine Tr.cnd rfl ?_ ?_
    · intro h2
      try simp only [decide_eq_true_eq, Bool.and_eq_true] at h2
      refine Tr.skip (End.nxt (Tr.blk (Tr.rg ?_))); refine mv rfl rfl rfl ?_; refine tO (ok_sub rfl uu rfl uu (fun _ => by omega)) rfl rfl ?_; refine mw rfl rfl rfl ?_; refine TrL.fin (End.blk ?_)
      exact End.lp (m - 1) ⟨by omega, fun i h3 h4 => by (by_cases e : i = m - 1; subst e; rw [← e1 (by omega)]; exact h2.2; exact hz i (by omega) h4)⟩ (by omega) (Ent.mk (.i rfl (by first | rfl | omega | simp <;> omega | assumption) <| .k rfl rfl <| .nil) (.nil) rfl)
    · intro h2
      try simp only [decide_eq_true_eq, decide_eq_false_iff_not, Bool.and_eq_false_imp] at h2
      refine Tr.exit (Exs.thn (Exs.thn (Exs.here ?_)))
      exact End.cut (m) ⟨hm, trim_take hm hz (by by_cases e : m = 0; exact .inl e; exact .inr (by rw [← e1 (by omega)]; exact h2 (by omega)))⟩ (Ent.mk (.i rfl (by first | rfl | omega | simp <;> omega | assumption) <| .k rfl rfl <| .nil) (.nil) rfl)
  · rintro m ⟨hm, hE⟩
    refine Tr.norm (S' := [⟨3, true, _, _⟩, ⟨0, true, _, _⟩]) (M' := []) rfl rfl ?_
    have htl := trim_len (xs := xs)
    have hz0 : ([] : List Int).length = 0 := rfl
    have htk : (xs.take m).length = m := by rw [List.length_take]; omega
    have e2 : ((m : Nat) : Int).toNat = m := rfl
    refine Tr.seq (Tr.rg ?_); refine TrL.new (ok_bsl0 eI 18) rfl rfl rfl rfl ?_; refine mv rfl rfl rfl ?_; refine mv rfl rfl rfl ?_; refine tO (ok_slJh rfl uu rfl uu (fun _ => by omega)) rfl rfl ?_; refine TrL.app rfl rfl rfl rfl rfl rfl rfl rfl (by rw [e2]; omega) (by rw [e2]; omega) ?_; refine TrL.norm (S' := [⟨_, _, _, _⟩, ⟨_, _, _, _⟩, ⟨_, _, _, _⟩, ⟨_, _, _, _⟩, ⟨_, _, _, _⟩, ⟨_, _, _, _⟩, ⟨_, _, _, _⟩]) rfl rfl ?_; refine mw rfl rfl rfl ?_; refine TrL.fin (End.nxt (Tr.ret ?_)); exact Rts.resN (fn := Tryz.f166) (u := 18) rfl rfl (arr_res (by rw [List.nil_append, hE]; rfl) (by rw [hE, e2]; omega)) (osl_res (by rw [hE, e2]; omega)) inferInstance

set_option maxRecDepth 100000 in
theorem ct_rsigned (xs : List Int) (neg : Bool) (hn : xs.length ≤ 10000000) (hx : SmI xs) : Ct Tryz.prog 125 [kRd (eL eI) xs, kB neg] (kRd (eL eI) (sgL xs neg)) := by
  have htl := trim_len (xs := xs)
  refine Ct.mk Tryz.func125 rfl Tryz.ntmps125 rfl (fun w J => ?_); refine Tr.seq (Tr.rg ?_); refine mw rfl rfl rfl ?_; refine TrL.fin (End.nxt (Tr.seq (Tr.rg ?_))); refine mv rfl rfl rfl ?_; refine TrL.new (ok_callN 8 (fun hp => ct_rtrimN _ (by omega)) (.a rfl uu <| .nil)) rfl rfl rfl rfl ?_; refine mw rfl rfl rfl ?_; refine TrL.fin (End.nxt (Tr.seq (Tr.seq (Tr.rg ?_)))); refine mw rfl rfl rfl ?_; refine TrL.fin (End.nxt ?_)
  refine Tr.for1 (σ := Nat) [⟨1, true, _, _⟩, ⟨5, true, _, _⟩] [] (fun i => [⟨6, true, [], kI (i : Int)⟩]) (fun i => [⟨8, [], cArr false 3 eI (ngT (trimL xs) i) (trimL xs).length⟩]) (fun i => i ≤ (trimL xs).length ∧ (0 < i → neg = true)) (fun i => i ≤ (trimL xs).length ∧ ngT (trimL xs) i = sgL xs neg) (fun i => (trimL xs).length - i) (0) ⟨by omega, fun h => absurd h (by omega)⟩ (Ent.mk (.i rfl (by first | rfl | omega | simp <;> omega | assumption) <| .k rfl rfl <| .k rfl rfl <| .nil) (.a ngT_zero (by first | rfl | omega | simp <;> omega | assumption) <| .nil) rfl) ?_ ?_
  · rintro i ⟨hi, hg⟩
    refine Tr.norm (S' := [⟨6, true, _, _⟩, ⟨1, true, _, _⟩, ⟨5, true, _, _⟩]) (M' := [⟨8, _, _⟩]) rfl rfl ?_
    have hat := fun (h : i < (trimL xs).length) => ngT_at (ds := trimL xs) (k := i) h
    have hxi := fun (h : i < (trimL xs).length) => hx _ (trim_mem (nth_mem h))
    refine Tr.seq (Tr.seq (Tr.rg ?_)); refine mv rfl rfl rfl ?_; refine mv rfl rfl rfl ?_; refine tO (ok_lenO rfl uu) rfl rfl ?_; refine tO (ok_lss rfl uu rfl uu) rfl rfl ?_; refine mv rfl rfl rfl ?_; refine TrL.gd rfl rfl rfl (ok_move rfl uu) rfl rfl ?_; refine tO (ok_and rfl uu rfl (fun hp h => gdT2 ((fun _ => rfl) hp) h)) rfl rfl ?_; refine TrL.fin (End.nxt ?_); refine Tr.cnd rfl ?_ ?_
    · intro h3
      try simp only [decide_eq_true_eq, Bool.and_eq_true] at h3
      refine Tr.skip (End.nxt (Tr.seq (Tr.blk (Tr.rg ?_)))); refine mv rfl rfl rfl ?_; refine mv rfl rfl rfl ?_; refine mv rfl rfl rfl ?_; refine mv rfl rfl rfl ?_
      first | refine tO (ok_idxEN rfl uu rfl uu (fun _ => by omega)) rfl rfl ?_ | refine tO (ok_idxE rfl uu rfl uu (fun _ => by omega)) rfl rfl ?_
      refine tO (ok_ldE rfl uu rfl rfl rfl) rfl rfl ?_; refine tO (ok_neg rfl uu (fun _ => by omega)) rfl rfl ?_
      first | refine tO (ok_idxEN rfl uu rfl uu (fun _ => by omega)) rfl rfl ?_ | refine tO (ok_idxE rfl uu rfl uu (fun _ => by omega)) rfl rfl ?_
      refine TrL.stE rfl rfl rfl rfl rfl ?_; refine TrL.fin (End.blk (End.nxt (Tr.rg ?_))); refine mv rfl rfl rfl ?_; refine tO (ok_add rfl uu rfl uu (fun _ => by omega)) rfl rfl ?_; refine mw rfl rfl rfl ?_; refine TrL.fin ?_
      exact End.lp (i + 1) ⟨by omega, fun _ => h3.2⟩ (by omega) (Ent.mk (.i rfl (by first | rfl | omega | simp <;> omega | assumption) <| .k rfl rfl <| .k rfl rfl <| .nil) (.a (ngT_succ (by omega)) (by first | rfl | omega | simp <;> omega | assumption) <| .nil) rfl)
    · intro h3
      try simp only [decide_eq_true_eq, Bool.and_eq_false_imp] at h3
      refine Tr.exit (Exs.thn (Exs.thn (Exs.here ?_)))
      exact End.cut (i) ⟨hi, sgL_end hi hg (fun hh => h3 (by omega))⟩ (Ent.mk (.i rfl (by first | rfl | omega | simp <;> omega | assumption) <| .k rfl rfl <| .k rfl rfl <| .nil) (.a (by first | rfl | omega | simp <;> omega | assumption) (by first | rfl | omega | simp <;> omega | assumption) <| .nil) rfl)
  · rintro i ⟨hi, hE⟩
    refine End.norm (S' := [⟨6, true, _, _⟩, ⟨1, true, _, _⟩, ⟨5, true, _, _⟩]) (M' := [⟨8, _, _⟩]) rfl rfl ?_; refine End.nxt (Tr.seq (Tr.rg ?_)); refine mv rfl rfl rfl ?_; refine mw rfl rfl rfl ?_; refine TrL.fin (End.nxt ?_); refine Tr.frz 8 [4] ⟨rfl, trivial⟩ (by simp only [lenMax]; omega) rfl ?_; refine Tr.ret ?_; exact Rts.res1 (fn := Tryz.f125) rfl (.r rfl hE <| .nil)

set_option maxRecDepth 100000 in
set_option maxHeartbeats 1000000 in
theorem ct_rNormal (xs : List Int) (hx : InI xs) (hn : xs.length ≤ 1000000) : Ct Tryz.prog 122 [kRd (eL eI) xs] (kRd (eL eI) (lstZ (val xs))) := by
  have h1l : ([1] : List Int).length = 1 := rfl
  refine Ct.mk Tryz.func122 rfl Tryz.ntmps122 rfl (fun w J => ?_); refine Tr.seq (Tr.rg ?_); refine mw rfl rfl rfl ?_; refine TrL.fin (End.nxt (Tr.seq (Tr.rg ?_))); refine mw rfl rfl rfl ?_; refine TrL.fin (End.nxt (Tr.seq (Tr.rg ?_))); refine mw rfl rfl rfl ?_; refine TrL.fin (End.nxt (Tr.seq (Tr.seq (Tr.rg ?_)))); refine mw rfl rfl rfl ?_; refine TrL.fin (End.nxt ?_); refine Tr.grow (s := 3) rfl rfl 3 rfl 3 eI rfl ?_
  refine Tr.for1 (σ := Nat) [⟨0, true, _, _⟩] [] (fun i => [⟨5, true, [], kI (i : Int)⟩, ⟨3, true, [3], kOsl 3 i⟩, ⟨4, true, [], kI (rdS xs i).2⟩]) (fun i => [⟨3, [], cArr true 3 eI (rdS xs i).1 i⟩]) (fun i => i ≤ xs.length) (fun i => i = xs.length) (fun i => xs.length - i) (0) (Nat.zero_le _) (Ent.mk (.i rfl (by first | rfl | omega | simp <;> omega | assumption) <| .o rfl (by first | rfl | omega | simp <;> omega | assumption) rfl <| .i rfl (by first | rfl | omega | simp <;> omega | assumption) <| .k rfl rfl <| .nil) (.a (by first | rfl | omega | simp <;> omega | assumption) (by first | rfl | omega | simp <;> omega | assumption) <| .nil) rfl) ?_ ?_
  · intro i hR0
    refine Tr.norm (S' := [⟨5, true, _, _⟩, ⟨3, true, _, _⟩, ⟨4, true, _, _⟩, ⟨0, true, _, _⟩]) (M' := [⟨3, _, _⟩]) rfl rfl ?_
    have hc1 := rdS_c hx (i := i)
    have hxx := hx i
    have hs := rdS_split (xs := xs) (i := i)
    have hxi := fun (h : i < xs.length) => xAt_in h
    refine Tr.seq (Tr.seq (Tr.rg ?_)); refine mv rfl rfl rfl ?_; refine mv rfl rfl rfl ?_; refine tO (ok_lenJ rfl uu) rfl rfl ?_; refine tO (ok_lss rfl uu rfl uu) rfl rfl ?_; refine TrL.fin (End.nxt ?_); refine Tr.cnd rfl ?_ ?_
    · intro h4
      replace h4 := of_decide_eq_true h4
      refine Tr.skip (End.nxt (Tr.seq (Tr.blk (Tr.seq (Tr.rg ?_))))); refine mv rfl rfl rfl ?_; refine mv rfl rfl rfl ?_
      first | refine tO (ok_idxN rfl uu rfl uu rfl (fun _ => by omega)) rfl rfl ?_ | refine tO (ok_idxP rfl uu rfl uu rfl (fun _ => by omega)) rfl rfl ?_
      refine tO (ok_ldP rfl uu rfl) rfl rfl ?_; refine tO (ok_call (fun hp => ct_rsplit _ (by have := hxx (by omega); omega)) (.a rfl uu <| .nil)) rfl rfl ?_; refine mv rfl rfl rfl ?_; refine tO (ok_ext rfl uu rfl) rfl rfl ?_; refine tO (ok_ext rfl uu rfl) rfl rfl ?_; refine mw rfl rfl rfl ?_; refine mw rfl rfl rfl ?_; refine TrL.fin (End.nxt (Tr.seq (Tr.rg ?_))); refine mv rfl rfl rfl ?_; refine mv rfl rfl rfl ?_; refine tO (ok_add rfl uu rfl uu (fun _ => by omega)) rfl rfl ?_; refine tO (ok_call (fun hp => ct_rsplit _ (by omega)) (.a rfl uu <| .nil)) rfl rfl ?_
      refine mv rfl rfl rfl ?_; refine tO (ok_ext rfl uu rfl) rfl rfl ?_; refine tO (ok_ext rfl uu rfl) rfl rfl ?_; refine mw rfl rfl rfl ?_; refine mw rfl rfl rfl ?_; refine TrL.fin (End.nxt (Tr.seq (Tr.rg ?_))); refine mv rfl rfl rfl ?_; refine mv rfl rfl rfl ?_; refine TrL.new (ok_bsl eI 39 (fun hp => .cons rfl <| .nil) rfl rfl rfl rfl) rfl rfl rfl rfl ?_
      refine TrL.app rfl rfl rfl rfl rfl rfl rfl rfl (by first | omega | (simp only [List.length_cons, List.length_nil]; omega)) (by first | omega | (simp only [List.length_cons, List.length_nil]; omega)) ?_
      refine TrL.norm (S' := ⟨_, _, _, _⟩ :: ⟨_, _, _, _⟩ :: ⟨_, _, _, _⟩ :: ⟨_, _, _, _⟩ :: ⟨_, _, _, _⟩ :: ⟨_, _, _, _⟩ :: ⟨_, _, _, _⟩ :: ⟨_, _, _, _⟩ :: ⟨_, _, _, _⟩ :: ⟨_, _, _, _⟩ :: ⟨_, _, _, _⟩ :: ⟨_, _, _, _⟩ :: ⟨_, _, _, _⟩ :: ⟨_, _, _, _⟩ :: ⟨_, _, _, _⟩ :: ⟨_, _, _, _⟩ :: ⟨_, _, _, _⟩ :: ⟨_, _, _, _⟩ :: ⟨_, _, _, _⟩ :: ⟨_, _, _, _⟩ :: ⟨_, _, _, _⟩ :: ⟨_, _, _, _⟩ :: ⟨_, _, _, _⟩ :: ⟨_, _, _, _⟩ :: ⟨_, _, _, _⟩ :: ⟨_, _, _, _⟩ :: ⟨_, _, _, _⟩ :: ⟨_, _, _, _⟩ :: ⟨_, _, _, _⟩ :: ⟨_, _, _, _⟩ :: ⟨_, _, _, _⟩ :: []) rfl rfl ?_; refine mw rfl rfl rfl ?_; refine TrL.fin (End.nxt (Tr.rg ?_))
      refine mv rfl rfl rfl ?_; refine mv rfl rfl rfl ?_; refine tO (ok_add rfl uu rfl uu (fun _ => by omega)) rfl rfl ?_; refine mw rfl rfl rfl ?_; refine TrL.fin (End.blk (End.nxt (Tr.rg ?_))); refine mv rfl rfl rfl ?_; refine tO (ok_add rfl uu rfl uu (fun _ => by omega)) rfl rfl ?_; refine mw rfl rfl rfl ?_; refine TrL.fin ?_
      exact End.lp (i + 1) (by first | rfl | omega | simp <;> omega | assumption) (by omega) (Ent.mk (.i rfl (by first | rfl | omega | simp <;> omega | assumption) <| .o rfl (by first | rfl | omega | simp <;> omega | assumption) rfl <| .i rfl (by rw [← hs.1, hxi (by omega)]) <| .k rfl rfl <| .nil) (.a (by rw [rdS, ← hs.2, hxi (by omega)]) (by first | rfl | omega | simp <;> omega | assumption) <| .nil) rfl)
    · intro h4
      replace h4 := Int.not_lt.1 (of_decide_eq_false h4)
      refine Tr.exit (Exs.thn (Exs.thn (Exs.here ?_)))
      exact End.cut (i) (by omega) (Ent.mk (.i rfl (by first | rfl | omega | simp <;> omega | assumption) <| .o rfl (by first | rfl | omega | simp <;> omega | assumption) rfl <| .i rfl (by first | rfl | omega | simp <;> omega | assumption) <| .k rfl rfl <| .nil) (.a (by first | rfl | omega | simp <;> omega | assumption) (by first | rfl | omega | simp <;> omega | assumption) <| .nil) rfl)
  · rintro _ rfl
    refine End.norm (S' := [⟨5, true, _, _⟩, ⟨3, true, _, _⟩, ⟨4, true, _, _⟩, ⟨0, true, _, _⟩]) (M' := [⟨3, _, _⟩]) rfl rfl ?_; refine End.nxt ?_
    refine Tr.for (σ := Nat) [] [] (fun i => [⟨3, true, [3], kOsl 3 i⟩, ⟨4, true, [], kI (rdS xs i).2⟩]) (fun i => [⟨3, [], cArr true 3 eI (rdS xs i).1 i⟩]) (fun i => xs.length ≤ i ∧ (i = xs.length ∨ (i = xs.length + 1 ∧ (rdS xs i).2.natAbs ≤ 2000) ∨ (i = xs.length + 2 ∧ ((rdS xs i).2 = 0 ∨ (rdS xs i).2 = -1)))) (fun i => xs.length ≤ i ∧ ((rdS xs i).2 = 0 ∨ (rdS xs i).2 = -1) ∧ i ≤ xs.length + 2) (fun i => xs.length + 2 - i) (xs.length) ⟨by omega, by omega⟩ (Ent.mk (.o rfl (by first | rfl | omega | simp <;> omega | assumption) rfl <| .i rfl (by first | rfl | omega | simp <;> omega | assumption) <| .nil) (.a (by first | rfl | omega | simp <;> omega | assumption) (by first | rfl | omega | simp <;> omega | assumption) <| .nil) rfl) ?_ ?_
    · rintro i ⟨hi, hm⟩
      refine Tr.norm (S' := [⟨3, true, _, _⟩, ⟨4, true, _, _⟩]) (M' := [⟨3, _, _⟩]) rfl rfl ?_
      have hc1 := rdS_c hx (i := i)
      have hxo := xAt_out (xs := xs) (i := i) (by omega)
      have hs2 : (rdS xs (i + 1)).2 = (xAt xs i + (rdS xs i).2) / 100000000 := rfl
      rw [hxo, Int.zero_add] at hs2
      have hrl : (rdS xs i).1.length = i := rdS_len
      refine Tr.seq (Tr.seq (Tr.rg ?_)); refine mv rfl rfl rfl ?_; refine tO (ok_neq rfl uu rfl uu) rfl rfl ?_; refine mv rfl rfl rfl ?_; refine TrL.gd rfl rfl rfl (ok_move rfl uu) rfl rfl ?_; refine TrL.gd rfl rfl rfl (ok_neq rfl id rfl uu) rfl rfl ?_; refine tO (ok_and rfl uu rfl (fun hp h => gdT2 ((fun _ => rfl) hp) h)) rfl rfl ?_; refine TrL.fin (End.nxt ?_); refine Tr.cnd rfl ?_ ?_
      · intro h10
        try simp only [decide_eq_true_eq, Bool.and_eq_true, ne_eq] at h10
        refine Tr.skip (End.nxt (Tr.blk (Tr.seq (Tr.rg ?_)))); refine mv rfl rfl rfl ?_; refine tO (ok_call (fun hp => ct_rsplit _ (by omega)) (.a rfl uu <| .nil)) rfl rfl ?_; refine mv rfl rfl rfl ?_; refine tO (ok_ext rfl uu rfl) rfl rfl ?_; refine tO (ok_ext rfl uu rfl) rfl rfl ?_; refine mw rfl rfl rfl ?_; refine mw rfl rfl rfl ?_; refine TrL.fin (End.nxt (Tr.seq (Tr.rg ?_))); refine mv rfl rfl rfl ?_; refine mv rfl rfl rfl ?_; refine TrL.new (ok_bsl eI 57 (fun hp => .cons rfl <| .nil) rfl rfl rfl rfl) rfl rfl rfl rfl ?_
        refine TrL.app rfl rfl rfl rfl rfl rfl rfl rfl (by first | omega | (simp only [List.length_cons, List.length_nil]; omega)) (by first | omega | (simp only [List.length_cons, List.length_nil]; omega)) ?_
        refine TrL.norm (S' := [⟨_, _, _, _⟩, ⟨_, _, _, _⟩, ⟨_, _, _, _⟩, ⟨_, _, _, _⟩, ⟨_, _, _, _⟩, ⟨_, _, _, _⟩, ⟨_, _, _, _⟩, ⟨_, _, _, _⟩, ⟨_, _, _, _⟩, ⟨_, _, _, _⟩, ⟨_, _, _, _⟩, ⟨_, _, _, _⟩, ⟨_, _, _, _⟩, ⟨_, _, _, _⟩, ⟨_, _, _, _⟩, ⟨_, _, _, _⟩, ⟨_, _, _, _⟩, ⟨_, _, _, _⟩, ⟨_, _, _, _⟩]) rfl rfl ?_; refine mw rfl rfl rfl ?_; refine TrL.fin (End.nxt (Tr.rg ?_)); refine mv rfl rfl rfl ?_; refine mw rfl rfl rfl ?_; refine TrL.fin (End.blk ?_)
        exact End.lp (i + 1) ⟨by omega, by omega⟩ (by omega) (Ent.mk (.o rfl (by first | rfl | omega | simp <;> omega | assumption) rfl <| .i rfl hs2.symm <| .nil) (.a (by rw [rdS, hxo, Int.zero_add]) (by first | rfl | omega | simp <;> omega | assumption) <| .nil) rfl)
      · intro h10
        try simp only [decide_eq_true_eq, decide_eq_false_iff_not, Bool.and_eq_false_imp, ne_eq, Classical.not_not] at h10
        refine Tr.exit (Exs.thn (Exs.thn (Exs.here ?_)))
        exact End.cut (i) ⟨hi, by omega, by omega⟩ (Ent.mk (.o rfl (by first | rfl | omega | simp <;> omega | assumption) rfl <| .i rfl (by first | rfl | omega | simp <;> omega | assumption) <| .nil) (.a (by first | rfl | omega | simp <;> omega | assumption) (by first | rfl | omega | simp <;> omega | assumption) <| .nil) rfl)
    · rintro i ⟨hi, hc, hb⟩
      refine Tr.norm (S' := [⟨3, true, _, _⟩, ⟨4, true, _, _⟩]) (M' := [⟨3, _, _⟩]) rfl rfl ?_
      have hrl : (rdS xs i).1.length = i := rdS_len
      refine Tr.seq (Tr.seq (Tr.rg ?_)); refine mv rfl rfl rfl ?_; refine tO (ok_eql rfl uu rfl uu) rfl rfl ?_; refine TrL.fin (End.nxt ?_); refine Tr.cnd rfl ?_ ?_
      · intro h14
        replace h14 := of_decide_eq_true h14
        refine Tr.seq (Tr.rg ?_); refine mv rfl rfl rfl ?_; refine TrL.frz 3 [3, 62] ⟨rfl, rfl, trivial⟩ (by simp only [lenMax]; omega) rfl ?_; refine TrL.norm (S' := [⟨_, _, _, _⟩, ⟨_, _, _, _⟩, ⟨_, _, _, _⟩, ⟨_, _, _, _⟩, ⟨_, _, _, _⟩, ⟨_, _, _, _⟩, ⟨_, _, _, _⟩]) rfl rfl ?_; refine tO (ok_call (fun hp => ct_rtrim _ (by omega)) (.a rfl uu <| .nil)) rfl rfl ?_; refine mw rfl rfl rfl ?_; refine TrL.fin (End.nxt (Tr.ret (Rts.thn ?_))); exact Rts.res1 (fn := Tryz.f122) rfl (.r rfl (nm_pos hi h14) <| .nil)
      · intro h14
        replace h14 := of_decide_eq_false h14
        refine Tr.skip (End.nxt (Tr.seq (Tr.rg ?_))); refine mw rfl rfl rfl ?_; refine TrL.fin (End.nxt (Tr.seq (Tr.rg ?_))); refine mw rfl rfl rfl ?_; refine TrL.fin (End.nxt (Tr.seq (Tr.seq (Tr.rg ?_)))); refine mw rfl rfl rfl ?_; refine TrL.fin (End.nxt ?_); refine Tr.grow (s := 12) rfl rfl 12 rfl 3 eI rfl ?_
        refine Tr.for1 (σ := Nat) [⟨3, true, _, _⟩] [⟨3, _, _⟩] (fun k => [⟨14, true, [], kI (k : Int)⟩, ⟨12, true, [12], kOsl 12 k⟩, ⟨13, true, [], kI (bw (rdS xs i).1 k)⟩]) (fun k => [⟨12, [], cArr true 3 eI (tab k (cmD (rdS xs i).1)) k⟩]) (fun k => k ≤ i) (fun k => k = i) (fun k => i - k) (0) (Nat.zero_le _) (Ent.mk (.i rfl (by first | rfl | omega | simp <;> omega | assumption) <| .o rfl (by first | rfl | omega | simp <;> omega | assumption) rfl <| .i rfl (by first | rfl | omega | simp <;> omega | assumption) <| .k rfl rfl <| .nil) (.a (by first | rfl | omega | simp <;> omega | assumption) (by first | rfl | omega | simp <;> omega | assumption) <| .k rfl <| .nil) rfl) ?_ ?_
        · intro k hR2
          refine Tr.norm (S' := [⟨14, true, _, _⟩, ⟨12, true, _, _⟩, ⟨13, true, _, _⟩, ⟨3, true, _, _⟩]) (M' := [⟨12, _, _⟩, ⟨3, _, _⟩]) rfl rfl ?_
          have hl : (rdS xs i).1.length = i := rdS_len
          have hd := fun (h : k < i) => (rdS_dg (xs := xs) (i := i)).at (i := k) (by omega)
          have hb01 := bw_01 (ds := (rdS xs i).1) (k := k)
          have hbs := bw_cm (ds := (rdS xs i).1) (k := k)
          refine Tr.seq (Tr.seq (Tr.rg ?_)); refine mv rfl rfl rfl ?_; refine mv rfl rfl rfl ?_; refine tO (ok_lenO rfl uu) rfl rfl ?_; refine tO (ok_lss rfl uu rfl uu) rfl rfl ?_; refine TrL.fin (End.nxt ?_); refine Tr.cnd rfl ?_ ?_
          · intro h19
            replace h19 := of_decide_eq_true h19
            refine Tr.skip (End.nxt (Tr.seq (Tr.blk (Tr.seq (Tr.rg ?_))))); refine mv rfl rfl rfl ?_; refine mv rfl rfl rfl ?_
            first | refine tO (ok_idxEN rfl uu rfl uu (fun _ => by omega)) rfl rfl ?_ | refine tO (ok_idxE rfl uu rfl uu (fun _ => by omega)) rfl rfl ?_
            refine tO (ok_ldE rfl uu rfl rfl rfl) rfl rfl ?_; refine tO (ok_neg rfl uu (fun _ => by omega)) rfl rfl ?_; refine mv rfl rfl rfl ?_; refine tO (ok_sub rfl uu rfl uu (fun _ => by omega)) rfl rfl ?_; refine mw rfl rfl rfl ?_; refine TrL.fin (End.nxt (Tr.seq (Tr.rg ?_))); refine mw rfl rfl rfl ?_; refine TrL.fin (End.nxt (Tr.seq (Tr.seq (Tr.rg ?_)))); refine mv rfl rfl rfl ?_; refine tO (ok_lss rfl uu rfl uu) rfl rfl ?_; refine TrL.fin (End.nxt ?_); refine Tr.cnd rfl ?_ ?_
            · intro h23
              replace h23 := of_decide_eq_true h23
              refine Tr.rg ?_; refine mv rfl rfl rfl ?_; refine tO (ok_add rfl uu rfl uu (fun _ => by omega)) rfl rfl ?_; refine mw rfl rfl rfl ?_; refine mw rfl rfl rfl ?_; refine TrL.fin (End.nxt (Tr.rg ?_)); refine mv rfl rfl rfl ?_; refine mv rfl rfl rfl ?_; refine TrL.new (ok_bsl eI 83 (fun hp => .cons rfl <| .nil) rfl rfl rfl rfl) rfl rfl rfl rfl ?_
              refine TrL.app rfl rfl rfl rfl rfl rfl rfl rfl (by first | omega | (simp only [List.length_cons, List.length_nil]; omega)) (by first | omega | (simp only [List.length_cons, List.length_nil]; omega)) ?_
              refine TrL.norm (S' := [⟨_, _, _, _⟩, ⟨_, _, _, _⟩, ⟨_, _, _, _⟩, ⟨_, _, _, _⟩, ⟨_, _, _, _⟩, ⟨_, _, _, _⟩, ⟨_, _, _, _⟩, ⟨_, _, _, _⟩, ⟨_, _, _, _⟩, ⟨_, _, _, _⟩, ⟨_, _, _, _⟩, ⟨_, _, _, _⟩, ⟨_, _, _, _⟩, ⟨_, _, _, _⟩, ⟨_, _, _, _⟩, ⟨_, _, _, _⟩, ⟨_, _, _, _⟩, ⟨_, _, _, _⟩, ⟨_, _, _, _⟩, ⟨_, _, _, _⟩, ⟨_, _, _, _⟩, ⟨_, _, _, _⟩, ⟨_, _, _, _⟩, ⟨_, _, _, _⟩, ⟨_, _, _, _⟩, ⟨_, _, _, _⟩, ⟨_, _, _, _⟩]) rfl rfl ?_; refine mw rfl rfl rfl ?_; refine TrL.fin (End.blk (End.nxt (Tr.rg ?_))); refine mv rfl rfl rfl ?_; refine tO (ok_add rfl uu rfl uu (fun _ => by omega)) rfl rfl ?_
              refine mw rfl rfl rfl ?_; refine TrL.fin ?_
              exact End.lp (k + 1) (by first | rfl | omega | simp <;> omega | assumption) (by omega) (Ent.mk (.i rfl (by first | rfl | omega | simp <;> omega | assumption) <| .o rfl (by first | rfl | omega | simp <;> omega | assumption) rfl <| .i rfl (by rw [hbs, if_pos h23]) <| .k rfl rfl <| .nil) (.a (by rw [tab_succ]; congr 2; unfold cmD; rw [if_pos h23]) (by first | rfl | omega | simp <;> omega | assumption) <| .k rfl <| .nil) rfl)
            · intro h23
              replace h23 := Int.not_lt.1 (of_decide_eq_false h23)
              refine Tr.skip (End.nxt (Tr.rg ?_)); refine mv rfl rfl rfl ?_; refine mv rfl rfl rfl ?_; refine TrL.new (ok_bsl eI 83 (fun hp => .cons rfl <| .nil) rfl rfl rfl rfl) rfl rfl rfl rfl ?_
              refine TrL.app rfl rfl rfl rfl rfl rfl rfl rfl (by first | omega | (simp only [List.length_cons, List.length_nil]; omega)) (by first | omega | (simp only [List.length_cons, List.length_nil]; omega)) ?_
              refine TrL.norm (S' := [⟨_, _, _, _⟩, ⟨_, _, _, _⟩, ⟨_, _, _, _⟩, ⟨_, _, _, _⟩, ⟨_, _, _, _⟩, ⟨_, _, _, _⟩, ⟨_, _, _, _⟩, ⟨_, _, _, _⟩, ⟨_, _, _, _⟩, ⟨_, _, _, _⟩, ⟨_, _, _, _⟩, ⟨_, _, _, _⟩, ⟨_, _, _, _⟩, ⟨_, _, _, _⟩, ⟨_, _, _, _⟩, ⟨_, _, _, _⟩, ⟨_, _, _, _⟩, ⟨_, _, _, _⟩, ⟨_, _, _, _⟩, ⟨_, _, _, _⟩, ⟨_, _, _, _⟩, ⟨_, _, _, _⟩, ⟨_, _, _, _⟩]) rfl rfl ?_; refine mw rfl rfl rfl ?_; refine TrL.fin (End.blk (End.nxt (Tr.rg ?_))); refine mv rfl rfl rfl ?_; refine tO (ok_add rfl uu rfl uu (fun _ => by omega)) rfl rfl ?_; refine mw rfl rfl rfl ?_
              refine TrL.fin ?_
              exact End.lp (k + 1) (by first | rfl | omega | simp <;> omega | assumption) (by omega) (Ent.mk (.i rfl (by first | rfl | omega | simp <;> omega | assumption) <| .o rfl (by first | rfl | omega | simp <;> omega | assumption) rfl <| .i rfl (by rw [hbs, if_neg (by omega)]) <| .k rfl rfl <| .nil) (.a (by rw [tab_succ]; congr 2; unfold cmD; rw [if_neg (by omega)]) (by first | rfl | omega | simp <;> omega | assumption) <| .k rfl <| .nil) rfl)
          · intro h19
            replace h19 := Int.not_lt.1 (of_decide_eq_false h19)
            refine Tr.exit (Exs.thn (Exs.thn (Exs.here ?_)))
            exact End.cut (k) (by omega) (Ent.mk (.i rfl (by first | rfl | omega | simp <;> omega | assumption) <| .o rfl (by first | rfl | omega | simp <;> omega | assumption) rfl <| .i rfl (by first | rfl | omega | simp <;> omega | assumption) <| .k rfl rfl <| .nil) (.a (by first | rfl | omega | simp <;> omega | assumption) (by first | rfl | omega | simp <;> omega | assumption) <| .k rfl <| .nil) rfl)
        · rintro _ rfl
          refine End.norm (S' := [⟨14, true, _, _⟩, ⟨12, true, _, _⟩, ⟨13, true, _, _⟩, ⟨3, true, _, _⟩]) (M' := [⟨12, _, _⟩, ⟨3, _, _⟩]) rfl rfl ?_; refine End.nxt (Tr.seq (Tr.seq (Tr.rg ?_))); refine mv rfl rfl rfl ?_; refine tO (ok_eql rfl uu rfl uu) rfl rfl ?_; refine TrL.fin (End.nxt ?_); refine Tr.cnd rfl ?_ ?_
          · intro h26
            replace h26 := of_decide_eq_true h26
            refine Tr.rg ?_; refine mv rfl rfl rfl ?_; refine TrL.new (ok_bsl eI 88 (fun hp => .cons rfl <| .nil) rfl rfl rfl rfl) rfl rfl rfl rfl ?_
            refine TrL.app rfl rfl rfl rfl rfl rfl rfl rfl (by first | omega | (simp only [List.length_cons, List.length_nil]; omega)) (by first | omega | (simp only [List.length_cons, List.length_nil]; omega)) ?_
            refine TrL.norm (S' := [⟨_, _, _, _⟩, ⟨_, _, _, _⟩, ⟨_, _, _, _⟩, ⟨_, _, _, _⟩, ⟨_, _, _, _⟩, ⟨_, _, _, _⟩, ⟨_, _, _, _⟩, ⟨_, _, _, _⟩, ⟨_, _, _, _⟩]) rfl rfl ?_; refine mw rfl rfl rfl ?_; refine TrL.fin (End.nxt (Tr.seq (Tr.rg ?_))); refine mv rfl rfl rfl ?_; refine TrL.frz 12 [12, 89, 90] ⟨rfl, rfl, rfl, trivial⟩ (by simp only [lenMax]; omega) rfl ?_; refine TrL.norm (S' := [⟨_, _, _, _⟩, ⟨_, _, _, _⟩, ⟨_, _, _, _⟩, ⟨_, _, _, _⟩, ⟨_, _, _, _⟩, ⟨_, _, _, _⟩, ⟨_, _, _, _⟩, ⟨_, _, _, _⟩, ⟨_, _, _, _⟩, ⟨_, _, _, _⟩, ⟨_, _, _, _⟩, ⟨_, _, _, _⟩, ⟨_, _, _, _⟩, ⟨_, _, _, _⟩]) rfl rfl ?_
            refine tO (ok_call (fun hp => ct_rsigned _ true (by first | (rw [tab_len]; omega) | (rw [List.length_append, tab_len]; omega)) (by first | exact (cm_dg rdS_dg rdS_len.symm).sm | exact ((cm_dg rdS_dg rdS_len.symm).snoc (by omega) (by omega)).sm)) (.a rfl uu <| .a rfl uu <| .nil)) rfl rfl ?_
            refine mw rfl rfl rfl ?_; refine TrL.fin (End.nxt (Tr.ret ?_)); exact Rts.res1 (fn := Tryz.f122) rfl (.r rfl (nm_neg0 hi (by omega) (by omega)) <| .nil)
          · intro h26
            replace h26 := of_decide_eq_false h26
            refine Tr.skip (End.nxt (Tr.seq (Tr.rg ?_))); refine mv rfl rfl rfl ?_; refine TrL.frz 12 [12, 90] ⟨rfl, rfl, trivial⟩ (by simp only [lenMax]; omega) rfl ?_; refine TrL.norm (S' := [⟨_, _, _, _⟩, ⟨_, _, _, _⟩, ⟨_, _, _, _⟩, ⟨_, _, _, _⟩, ⟨_, _, _, _⟩, ⟨_, _, _, _⟩, ⟨_, _, _, _⟩, ⟨_, _, _, _⟩, ⟨_, _, _, _⟩]) rfl rfl ?_
            refine tO (ok_call (fun hp => ct_rsigned _ true (by first | (rw [tab_len]; omega) | (rw [List.length_append, tab_len]; omega)) (by first | exact (cm_dg rdS_dg rdS_len.symm).sm | exact ((cm_dg rdS_dg rdS_len.symm).snoc (by omega) (by omega)).sm)) (.a rfl uu <| .a rfl uu <| .nil)) rfl rfl ?_
            refine mw rfl rfl rfl ?_; refine TrL.fin (End.nxt (Tr.ret ?_)); exact Rts.res1 (fn := Tryz.f122) rfl (.r rfl (nm_neg1 hi (by omega) (by omega)) <| .nil)

end Go.Fl

/- Contracts: integers of the reference of chapter 1 (signs, sums, products). -/
namespace Go.Fl
open Go Go.Proofs
open TrL renaming op → tO
open RunD renaming op → rO

set_option maxRecDepth 100000 in
theorem ct_rNegative (z : Int) : Ct Tryz.prog 124 [kRd (eL eI) (lstZ z)] (kB (decide (z < 0))) := by
  refine Ct.mk Tryz.func124 rfl Tryz.ntmps124 rfl (fun w J => ?_); refine Tr.fact (s := 0) rfl (fun _ _ h => lenB h) (fun hb => ?_); refine Tr.seq (Tr.rg ?_); refine mw rfl rfl rfl ?_; refine TrL.fin (End.nxt (Tr.seq (Tr.rg ?_))); refine mv rfl rfl rfl ?_; refine tO (ok_lenJ rfl uu) rfl rfl ?_; refine tO (ok_gtr rfl uu rfl uu) rfl rfl ?_; refine mv rfl rfl rfl ?_; refine TrL.gd rfl rfl rfl (ok_move rfl uu) rfl rfl ?_; refine TrL.gd rfl rfl rfl (ok_move rfl uu) rfl rfl ?_; refine TrL.gd rfl rfl rfl (ok_lenJ rfl id) rfl rfl ?_; refine TrL.gd rfl rfl rfl (ok_sub rfl id rfl uu (fun hp => by simp at hp; omega)) rfl rfl ?_
  first | refine TrL.gd rfl rfl rfl (ok_idxN rfl id rfl id rfl (fun hp => by simp at hp; omega)) rfl rfl ?_ | refine TrL.gd rfl rfl rfl (ok_idxP rfl id rfl id rfl (fun hp => by simp at hp; omega)) rfl rfl ?_
  refine TrL.gd rfl rfl rfl (ok_ldP rfl id rfl) rfl rfl ?_; refine TrL.gd rfl rfl rfl (ok_lss rfl id rfl uu) rfl rfl ?_; refine tO (ok_and rfl uu rfl (fun hp h => gdT2 ((fun _ => rfl) hp) h)) rfl rfl ?_; refine mw rfl rfl rfl ?_; refine TrL.fin (End.nxt (Tr.ret ?_)); exact Rts.res1 (fn := Tryz.f124) rfl (.b rfl (neg_of fun h => lst_last h) <| .nil)

set_option maxRecDepth 100000 in
theorem ct_rsize (z : Int) (hn : dl z ≤ 10000000) : Ct Tryz.prog 121 [kRd (eL eI) (lstZ z)] (kRd (eL eI) (digN z.natAbs)) := by
  refine Ct.mk Tryz.func121 rfl Tryz.ntmps121 rfl (fun w J => ?_); refine Tr.seq (Tr.rg ?_); refine mw rfl rfl rfl ?_; refine TrL.fin (End.nxt (Tr.seq (Tr.rg ?_))); refine mv rfl rfl rfl ?_; refine mv rfl rfl rfl ?_; refine tO (ok_call (fun hp => ct_rNegative _) (.a rfl uu <| .nil)) rfl rfl ?_; refine tO (ok_call (fun hp => ct_rsigned _ _ (by rw [lst_len]; exact hn) (lst_sm z)) (.a rfl uu <| .a rfl uu <| .nil)) rfl rfl ?_; refine mw rfl rfl rfl ?_; refine TrL.fin (End.nxt (Tr.ret ?_)); exact Rts.res1 (fn := Tryz.f121) rfl (.r rfl (sg_size z) <| .nil)

set_option maxRecDepth 100000 in
theorem ct_rzless (a b : List Int) (ha : Nm a) (hb : Nm b) (hm : a.length ≤ 10000000) (_ : b.length ≤ 10000000) : Ct Tryz.prog 167 [kRd (eL eI) a, kRd (eL eI) b] (kB (decide (val a < val b))) := by
  refine Ct.mk Tryz.func167 rfl Tryz.ntmps167 rfl (fun w J => ?_); refine Tr.seq (Tr.rg ?_); refine mw rfl rfl rfl ?_; refine TrL.fin (End.nxt (Tr.seq (Tr.seq (Tr.rg ?_)))); refine mv rfl rfl rfl ?_; refine tO (ok_lenJ rfl uu) rfl rfl ?_; refine mv rfl rfl rfl ?_; refine tO (ok_lenJ rfl uu) rfl rfl ?_; refine tO (ok_neq rfl uu rfl uu) rfl rfl ?_; refine TrL.fin (End.nxt ?_); refine Tr.cnd rfl ?_ ?_
  · intro h1
    replace h1 := of_decide_eq_true h1
    refine Tr.seq (Tr.rg ?_); refine mv rfl rfl rfl ?_; refine tO (ok_lenJ rfl uu) rfl rfl ?_; refine mv rfl rfl rfl ?_; refine tO (ok_lenJ rfl uu) rfl rfl ?_; refine tO (ok_lss rfl uu rfl uu) rfl rfl ?_; refine mw rfl rfl rfl ?_; refine TrL.fin (End.nxt (Tr.ret (Rts.thn ?_))); exact Rts.res1 (fn := Tryz.f167) rfl (.b rfl (less_len ha hb (by omega)) <| .nil)
  · intro h1
    replace h1 := Classical.not_not.1 (of_decide_eq_false h1)
    refine Tr.skip (End.nxt (Tr.seq (Tr.seq (Tr.rg ?_)))); refine mv rfl rfl rfl ?_; refine tO (ok_lenJ rfl uu) rfl rfl ?_; refine tO (ok_sub rfl uu rfl uu (fun _ => by omega)) rfl rfl ?_; refine mw rfl rfl rfl ?_; refine TrL.fin (End.nxt ?_)
    refine Tr.for1 (σ := Nat) [⟨0, true, _, _⟩, ⟨1, true, _, _⟩] [] (fun i => [⟨5, true, [], kI ((i : Int) - 1)⟩]) (fun i => []) (fun i => i ≤ a.length ∧ ∀ j, i ≤ j → j < a.length → nth a j = nth b j) (fun i => i = 0 ∧ ∀ j, i ≤ j → j < a.length → nth a j = nth b j) (fun i => i) (a.length) ⟨by omega, fun j h1 h2 => absurd h1 (by omega)⟩ (Ent.mk (.i rfl (by first | rfl | omega | simp <;> omega | assumption) <| .k rfl rfl <| .k rfl rfl <| .nil) (.nil) rfl) ?_ ?_
    · rintro i ⟨hi, hR⟩
      refine Tr.norm (S' := [⟨5, true, _, _⟩, ⟨0, true, _, _⟩, ⟨1, true, _, _⟩]) (M' := []) rfl rfl ?_
      have e1 : ((i : Int) - 1).toNat = i - 1 := by omega
      refine Tr.seq (Tr.seq (Tr.rg ?_)); refine mv rfl rfl rfl ?_; refine tO (ok_geq rfl uu rfl uu) rfl rfl ?_; refine TrL.fin (End.nxt ?_); refine Tr.cnd rfl ?_ ?_
      · intro h4
        replace h4 := of_decide_eq_true h4
        refine Tr.skip (End.nxt (Tr.seq (Tr.blk (Tr.seq ?_)))); refine Tr.draw 8 mixed (by kernel_rfl) ?_; refine rO (ok_move rfl uu) rfl rfl ?_; refine rO (ok_move rfl uu) rfl rfl ?_
        first | refine rO (ok_idxN rfl uu rfl uu rfl (fun _ => by omega)) rfl rfl ?_ | refine rO (ok_idxP rfl uu rfl uu rfl (fun _ => by omega)) rfl rfl ?_
        refine rO (ok_ldP rfl uu rfl) rfl rfl ?_; refine rO (ok_move rfl uu) rfl rfl ?_; refine rO (ok_move rfl uu) rfl rfl ?_
        first | refine rO (ok_idxN rfl uu rfl uu rfl (fun _ => by omega)) rfl rfl ?_ | refine rO (ok_idxP rfl uu rfl uu rfl (fun _ => by omega)) rfl rfl ?_
        refine rO (ok_ldP rfl uu rfl) rfl rfl ?_; refine RunD.z ?_; refine tO (ok_neq rfl uu rfl uu) rfl rfl ?_; refine TrL.fin (End.nxt ?_); refine Tr.cnd rfl ?_ ?_
        · intro h6
          replace h6 := of_decide_eq_true h6
          refine Tr.seq ?_; refine Tr.draw 8 mixed (by kernel_rfl) ?_; refine rO (ok_move rfl uu) rfl rfl ?_; refine rO (ok_move rfl uu) rfl rfl ?_
          first | refine rO (ok_idxN rfl uu rfl uu rfl (fun _ => by omega)) rfl rfl ?_ | refine rO (ok_idxP rfl uu rfl uu rfl (fun _ => by omega)) rfl rfl ?_
          refine rO (ok_ldP rfl uu rfl) rfl rfl ?_; refine rO (ok_move rfl uu) rfl rfl ?_; refine rO (ok_move rfl uu) rfl rfl ?_
          first | refine rO (ok_idxN rfl uu rfl uu rfl (fun _ => by omega)) rfl rfl ?_ | refine rO (ok_idxP rfl uu rfl uu rfl (fun _ => by omega)) rfl rfl ?_
          refine rO (ok_ldP rfl uu rfl) rfl rfl ?_; refine RunD.z ?_; refine tO (ok_lss rfl uu rfl uu) rfl rfl ?_; refine mw rfl rfl rfl ?_; refine TrL.fin (End.nxt (Tr.ret (Rts.out (Rts.thn (Rts.thn (Rts.out (Rts.thn (Rts.thn ?_)))))))); exact Rts.res1 (fn := Tryz.f167) rfl (.b rfl (by rw [e1]; exact less_at ha.dg hb.dg (by omega) (by omega) (fun j h1 h2 => hR j (by omega) h2) (by rw [← e1]; exact h6)) <| .nil)
        · intro h6
          replace h6 := Classical.not_not.1 (of_decide_eq_false h6)
          refine Tr.skip (End.blk (End.nxt (Tr.rg ?_))); refine mv rfl rfl rfl ?_; refine tO (ok_sub rfl uu rfl uu (fun _ => by omega)) rfl rfl ?_; refine mw rfl rfl rfl ?_; refine TrL.fin ?_
          exact End.lp (i - 1) ⟨by omega, fun j h1 h2 => by (by_cases e : j = i - 1; subst e; rw [← e1]; exact h6; exact hR j (by omega) h2)⟩ (by omega) (Ent.mk (.i rfl (by first | rfl | omega | simp <;> omega | assumption) <| .k rfl rfl <| .k rfl rfl <| .nil) (.nil) rfl)
      · intro h4
        replace h4 := Int.not_le.1 (of_decide_eq_false h4)
        refine Tr.exit (Exs.thn (Exs.thn (Exs.here ?_)))
        exact End.cut (i) ⟨by omega, hR⟩ (Ent.mk (.i rfl (by first | rfl | omega | simp <;> omega | assumption) <| .k rfl rfl <| .k rfl rfl <| .nil) (.nil) rfl)
    · rintro i ⟨hi, hR⟩
      refine End.norm (S' := [⟨5, true, _, _⟩, ⟨0, true, _, _⟩, ⟨1, true, _, _⟩]) (M' := []) rfl rfl ?_; refine End.nxt (Tr.seq (Tr.rg ?_)); refine mw rfl rfl rfl ?_; refine TrL.fin (End.nxt (Tr.ret ?_)); exact Rts.res1 (fn := Tryz.f167) rfl (.b rfl (by subst hi; exact less_all (by omega) hR) <| .nil)

set_option maxRecDepth 100000 in
set_option maxHeartbeats 1000000 in
theorem ct_rAdd (xs ys : List Int) (hx : InI xs) (hy : InI ys) (hn : xs.length ≤ 900000) (hm : ys.length ≤ 900000) : Ct Tryz.prog 127 [kRd (eL eI) xs, kRd (eL eI) ys] (kRd (eL eI) (lstZ (val xs + val ys))) := by
  have hdx := dl_val hx
  have hdy := dl_val hy
  have hlx := lst_len (val xs)
  have hly := lst_len (val ys)
  refine Ct.mk Tryz.func127 rfl Tryz.ntmps127 rfl (fun w J => ?_); refine Tr.seq (Tr.rg ?_); refine mw rfl rfl rfl ?_; refine TrL.fin (End.nxt (Tr.seq (Tr.rg ?_))); refine mv rfl rfl rfl ?_; refine tO (ok_call (fun hp => ct_rNormal _ (by assumption) (by omega)) (.a rfl uu <| .nil)) rfl rfl ?_; refine mv rfl rfl rfl ?_; refine tO (ok_call (fun hp => ct_rNormal _ (by assumption) (by omega)) (.a rfl uu <| .nil)) rfl rfl ?_; refine mw rfl rfl rfl ?_; refine mw rfl rfl rfl ?_; refine TrL.fin (End.nxt (Tr.seq (Tr.rg ?_)))
  refine mw rfl rfl rfl ?_; refine TrL.fin (End.nxt (Tr.seq (Tr.seq (Tr.rg ?_)))); refine mw rfl rfl rfl ?_; refine TrL.fin (End.nxt ?_); refine Tr.grow (s := 5) rfl rfl 5 rfl 3 eI rfl ?_
  refine Tr.for1 (σ := Nat) [⟨0, true, _, _⟩, ⟨1, true, _, _⟩] [] (fun i => [⟨5, true, [5], kOsl 5 i⟩, ⟨6, true, [], kI (i : Int)⟩]) (fun i => [⟨5, [], cArr true 3 eI (adX (lstZ (val xs)) (lstZ (val ys)) i) i⟩]) (fun i => i ≤ max (lstZ (val xs)).length (lstZ (val ys)).length) (fun i => i = max (lstZ (val xs)).length (lstZ (val ys)).length) (fun i => max (lstZ (val xs)).length (lstZ (val ys)).length - i) (0) (by omega) (Ent.mk (.o rfl (by first | rfl | omega | simp <;> omega | assumption) rfl <| .i rfl (by first | rfl | omega | simp <;> omega | assumption) <| .k rfl rfl <| .k rfl rfl <| .nil) (.a (by first | rfl | omega | simp <;> omega | assumption) (by first | rfl | omega | simp <;> omega | assumption) <| .nil) rfl) ?_ ?_
  · intro i hR0
    refine Tr.norm (S' := [⟨5, true, _, _⟩, ⟨6, true, _, _⟩, ⟨0, true, _, _⟩, ⟨1, true, _, _⟩]) (M' := [⟨5, _, _⟩]) rfl rfl ?_
    have hbx := fun (h : i < (lstZ (val xs)).length) => lst_bd h
    have hby := fun (h : i < (lstZ (val ys)).length) => lst_bd h
    have hxi := fun (h : i < (lstZ (val xs)).length) => xAt_in h
    have hyi := fun (h : i < (lstZ (val ys)).length) => xAt_in h
    have hxo := fun (h : ¬ i < (lstZ (val xs)).length) => xAt_out h
    have hyo := fun (h : ¬ i < (lstZ (val ys)).length) => xAt_out h
    refine Tr.seq (Tr.seq (Tr.rg ?_)); refine mv rfl rfl rfl ?_; refine mv rfl rfl rfl ?_; refine tO (ok_lenJ rfl uu) rfl rfl ?_; refine tO (ok_lss rfl uu rfl uu) rfl rfl ?_; refine mv rfl rfl rfl ?_; refine TrL.gd rfl rfl rfl (ok_move rfl uu) rfl rfl ?_; refine TrL.gd rfl rfl rfl (ok_move rfl uu) rfl rfl ?_; refine TrL.gd rfl rfl rfl (ok_lenJ rfl id) rfl rfl ?_; refine TrL.gd rfl rfl rfl (ok_lss rfl id rfl id) rfl rfl ?_; refine tO (ok_or rfl uu rfl (fun hp h => gdF2 ((fun _ => rfl) hp) h)) rfl rfl ?_; refine TrL.fin (End.nxt ?_); refine Tr.cnd rfl ?_ ?_
    · intro h4
      try simp only [decide_eq_true_eq, Bool.or_eq_true] at h4
      refine Tr.skip (End.nxt (Tr.seq (Tr.blk (Tr.seq (Tr.rg ?_))))); refine mw rfl rfl rfl ?_; refine TrL.fin (End.nxt ?_); refine Tr.meet2 (σ := Unit) [⟨0, true, _, _⟩, ⟨1, true, _, _⟩, ⟨5, true, _, _⟩, ⟨6, true, _, _⟩] [⟨5, _, _⟩] (.k rfl rfl <| .k rfl rfl <| .k rfl rfl <| .k rfl rfl <| .nil) (.k rfl <| .nil) (fun _ => [⟨7, true, [], kI (xAt (lstZ (val xs)) i)⟩]) (fun _ => []) (fun _ => True) ?_ ?_
      · skip
        refine Tr.seq (Tr.rg ?_); refine mv rfl rfl rfl ?_; refine mv rfl rfl rfl ?_; refine tO (ok_lenJ rfl uu) rfl rfl ?_; refine tO (ok_lss rfl uu rfl uu) rfl rfl ?_; refine TrL.fin (End.nxt ?_); refine Tr.cnd rfl ?_ ?_
        · intro h7
          replace h7 := of_decide_eq_true h7
          refine Tr.rg ?_; refine mv rfl rfl rfl ?_; refine mv rfl rfl rfl ?_
          first | refine tO (ok_idxN rfl uu rfl uu rfl (fun _ => by omega)) rfl rfl ?_ | refine tO (ok_idxP rfl uu rfl uu rfl (fun _ => by omega)) rfl rfl ?_
          refine tO (ok_ldP rfl uu rfl) rfl rfl ?_; refine mw rfl rfl rfl ?_; refine TrL.fin ?_
          exact End.cut (()) (by first | rfl | omega | simp <;> omega | assumption) (Ent.mk (.i rfl (hxi (by omega)).symm <| .k rfl rfl <| .k rfl rfl <| .k rfl rfl <| .k rfl rfl <| .nil) (.k rfl <| .nil) rfl)
        · intro h7
          replace h7 := Int.not_lt.1 (of_decide_eq_false h7)
          refine Tr.skip ?_
          exact End.cut (()) (by first | rfl | omega | simp <;> omega | assumption) (Ent.mk (.i rfl (hxo (by omega)).symm <| .k rfl rfl <| .k rfl rfl <| .k rfl rfl <| .k rfl rfl <| .nil) (.k rfl <| .nil) rfl)
      · intro _ hM
        refine Tr.norm (S' := [⟨7, true, _, _⟩, ⟨0, true, _, _⟩, ⟨1, true, _, _⟩, ⟨5, true, _, _⟩, ⟨6, true, _, _⟩]) (M' := [⟨5, _, _⟩]) rfl rfl ?_; refine Tr.meet2 (σ := Unit) [⟨0, true, _, _⟩, ⟨1, true, _, _⟩, ⟨5, true, _, _⟩, ⟨6, true, _, _⟩] [⟨5, _, _⟩] (.k rfl rfl <| .k rfl rfl <| .k rfl rfl <| .k rfl rfl <| .nil) (.k rfl <| .nil) (fun _ => [⟨7, true, [], kI (xAt (lstZ (val xs)) i + xAt (lstZ (val ys)) i)⟩]) (fun _ => []) (fun _ => True) ?_ ?_
        · skip
          refine Tr.seq (Tr.rg ?_); refine mv rfl rfl rfl ?_; refine mv rfl rfl rfl ?_; refine tO (ok_lenJ rfl uu) rfl rfl ?_; refine tO (ok_lss rfl uu rfl uu) rfl rfl ?_; refine TrL.fin (End.nxt ?_); refine Tr.cnd rfl ?_ ?_
          · intro h9
            replace h9 := of_decide_eq_true h9
            refine Tr.rg ?_
            have hxb : -100000000 < xAt (lstZ (val xs)) i ∧ xAt (lstZ (val xs)) i < 100000000 := by (by_cases hh : i < (lstZ (val xs)).length; rw [hxi hh]; exact hbx hh; rw [hxo hh]; omega)
            refine mv rfl rfl rfl ?_; refine mv rfl rfl rfl ?_; refine mv rfl rfl rfl ?_
            first | refine tO (ok_idxN rfl uu rfl uu rfl (fun _ => by omega)) rfl rfl ?_ | refine tO (ok_idxP rfl uu rfl uu rfl (fun _ => by omega)) rfl rfl ?_
            refine tO (ok_ldP rfl uu rfl) rfl rfl ?_; refine tO (ok_add rfl uu rfl uu (fun _ => by omega)) rfl rfl ?_; refine mw rfl rfl rfl ?_; refine TrL.fin ?_
            exact End.cut (()) (by first | rfl | omega | simp <;> omega | assumption) (Ent.mk (.i rfl (by rw [hyi (by omega)]) <| .k rfl rfl <| .k rfl rfl <| .k rfl rfl <| .k rfl rfl <| .nil) (.k rfl <| .nil) rfl)
          · intro h9
            replace h9 := Int.not_lt.1 (of_decide_eq_false h9)
            refine Tr.skip ?_
            exact End.cut (()) (by first | rfl | omega | simp <;> omega | assumption) (Ent.mk (.i rfl (by rw [hyo (by omega), Int.add_zero]) <| .k rfl rfl <| .k rfl rfl <| .k rfl rfl <| .k rfl rfl <| .nil) (.k rfl <| .nil) rfl)
        · intro _ hM
          refine Tr.norm (S' := [⟨7, true, _, _⟩, ⟨0, true, _, _⟩, ⟨1, true, _, _⟩, ⟨5, true, _, _⟩, ⟨6, true, _, _⟩]) (M' := [⟨5, _, _⟩]) rfl rfl ?_; refine Tr.rg ?_; refine mv rfl rfl rfl ?_; refine mv rfl rfl rfl ?_; refine TrL.new (ok_bsl eI 44 (fun hp => .cons rfl <| .nil) rfl rfl rfl rfl) rfl rfl rfl rfl ?_
          refine TrL.app rfl rfl rfl rfl rfl rfl rfl rfl (by first | omega | (simp only [List.length_cons, List.length_nil]; omega)) (by first | omega | (simp only [List.length_cons, List.length_nil]; omega)) ?_
          refine TrL.norm (S' := [⟨_, _, _, _⟩, ⟨_, _, _, _⟩, ⟨_, _, _, _⟩, ⟨_, _, _, _⟩, ⟨_, _, _, _⟩, ⟨_, _, _, _⟩, ⟨_, _, _, _⟩, ⟨_, _, _, _⟩, ⟨_, _, _, _⟩]) rfl rfl ?_; refine mw rfl rfl rfl ?_; refine TrL.fin (End.blk (End.nxt (Tr.rg ?_))); refine mv rfl rfl rfl ?_; refine tO (ok_add rfl uu rfl uu (fun _ => by omega)) rfl rfl ?_; refine mw rfl rfl rfl ?_; refine TrL.fin ?_
          exact End.lp (i + 1) (by omega) (by omega) (Ent.mk (.o rfl (by first | rfl | omega | simp <;> omega | assumption) rfl <| .i rfl (by first | rfl | omega | simp <;> omega | assumption) <| .k rfl rfl <| .k rfl rfl <| .nil) (.a (by unfold adX; rw [tab_succ]) (by first | rfl | omega | simp <;> omega | assumption) <| .nil) rfl)
    · intro h4
      try simp only [decide_eq_false_iff_not, Bool.or_eq_false_iff, Int.not_lt] at h4
      refine Tr.exit (Exs.thn (Exs.thn (Exs.here ?_)))
      exact End.cut (i) (by omega) (Ent.mk (.o rfl (by first | rfl | omega | simp <;> omega | assumption) rfl <| .i rfl (by first | rfl | omega | simp <;> omega | assumption) <| .k rfl rfl <| .k rfl rfl <| .nil) (.a (by first | rfl | omega | simp <;> omega | assumption) (by first | rfl | omega | simp <;> omega | assumption) <| .nil) rfl)
  · rintro _ rfl
    refine End.norm (S' := [⟨5, true, _, _⟩, ⟨6, true, _, _⟩, ⟨0, true, _, _⟩, ⟨1, true, _, _⟩]) (M' := [⟨5, _, _⟩]) rfl rfl ?_
    have hxl := Nat.le_max_left (lstZ (val xs)).length (lstZ (val ys)).length
    have hyl := Nat.le_max_right (lstZ (val xs)).length (lstZ (val ys)).length
    have hal : (adX (lstZ (val xs)) (lstZ (val ys)) (max (lstZ (val xs)).length (lstZ (val ys)).length)).length = max (lstZ (val xs)).length (lstZ (val ys)).length := tab_len
    refine End.nxt (Tr.seq (Tr.rg ?_)); refine mv rfl rfl rfl ?_; refine TrL.frz 5 [5, 46] ⟨rfl, rfl, trivial⟩ (by simp only [lenMax]; omega) rfl ?_; refine TrL.norm (S' := [⟨_, _, _, _⟩, ⟨_, _, _, _⟩, ⟨_, _, _, _⟩, ⟨_, _, _, _⟩, ⟨_, _, _, _⟩, ⟨_, _, _, _⟩, ⟨_, _, _, _⟩]) rfl rfl ?_; refine tO (ok_call (fun hp => ct_rNormal _ adX_in (by omega)) (.a rfl uu <| .nil)) rfl rfl ?_; refine mw rfl rfl rfl ?_; refine TrL.fin (End.nxt (Tr.ret ?_)); exact Rts.res1 (fn := Tryz.f127) rfl (.r rfl (by rw [adX_val hxl hyl, lst_val, lst_val]) <| .nil)

set_option maxRecDepth 100000 in
theorem ct_rNeg (xs : List Int) (hx : InI xs) (hn : xs.length ≤ 1000000) : Ct Tryz.prog 85 [kRd (eL eI) xs] (kRd (eL eI) (lstZ (-val xs))) := by
  have hdx := dl_val hx
  refine Ct.mk Tryz.func85 rfl Tryz.ntmps85 rfl (fun w J => ?_); refine Tr.seq (Tr.rg ?_); refine mw rfl rfl rfl ?_; refine TrL.fin (End.nxt (Tr.seq (Tr.rg ?_))); refine mv rfl rfl rfl ?_; refine tO (ok_call (fun hp => ct_rNormal _ (by assumption) (by omega)) (.a rfl uu <| .nil)) rfl rfl ?_; refine tO (ok_call (fun hp => ct_rsigned _ true (by rw [lst_len]; omega) (lst_sm _)) (.a rfl uu <| .a rfl uu <| .nil)) rfl rfl ?_; refine mw rfl rfl rfl ?_; refine TrL.fin (End.nxt (Tr.ret ?_)); exact Rts.res1 (fn := Tryz.f85) rfl (.r rfl (sg_neg _) <| .nil)

set_option maxRecDepth 100000 in
theorem ct_rSub (xs ys : List Int) (hx : InI xs) (hy : InI ys) (hn : xs.length ≤ 800000) (hm : ys.length ≤ 800000) : Ct Tryz.prog 126 [kRd (eL eI) xs, kRd (eL eI) ys] (kRd (eL eI) (lstZ (val xs - val ys))) := by
  have hdx := dl_val hx
  have hdy := dl_val hy
  have hlx := lst_len (val xs)
  have hly := lst_len (val ys)
  refine Ct.mk Tryz.func126 rfl Tryz.ntmps126 rfl (fun w J => ?_); refine Tr.seq (Tr.rg ?_); refine mw rfl rfl rfl ?_; refine TrL.fin (End.nxt (Tr.seq (Tr.rg ?_))); refine mv rfl rfl rfl ?_; refine mv rfl rfl rfl ?_; refine tO (ok_call (fun hp => ct_rNeg _ (by assumption) (by omega)) (.a rfl uu <| .nil)) rfl rfl ?_; refine tO (ok_call (fun hp => ct_rAdd xs (lstZ (-val ys)) (by assumption) (lst_in _) (by omega) (by rw [lst_len, dl_neg]; omega)) (.a rfl uu <| .a rfl uu <| .nil)) rfl rfl ?_; refine mw rfl rfl rfl ?_; refine TrL.fin (End.nxt (Tr.ret ?_))
  exact Rts.res1 (fn := Tryz.f126) rfl (.r rfl (by rw [lst_val, Int.sub_eq_add_neg]) <| .nil)

set_option maxRecDepth 100000 in
set_option maxHeartbeats 1000000 in
theorem ct_rMul (xs ys : List Int) (hx : InI xs) (hy : InI ys) (hn : xs.length ≤ 400000) (hm : ys.length ≤ 400000) : Ct Tryz.prog 168 [kRd (eL eI) xs, kRd (eL eI) ys] (kRd (eL eI) (lstZ (val xs * val ys))) := by
  have hdx := dl_val hx
  have hdy := dl_val hy
  have hlx := lst_len (val xs)
  have hly := lst_len (val ys)
  refine Ct.mk Tryz.func168 rfl Tryz.ntmps168 rfl (fun w J => ?_); refine Tr.seq (Tr.rg ?_); refine mw rfl rfl rfl ?_; refine TrL.fin (End.nxt (Tr.seq (Tr.rg ?_))); refine mv rfl rfl rfl ?_; refine tO (ok_call (fun hp => ct_rNormal _ (by assumption) (by omega)) (.a rfl uu <| .nil)) rfl rfl ?_; refine mv rfl rfl rfl ?_; refine tO (ok_call (fun hp => ct_rNormal _ (by assumption) (by omega)) (.a rfl uu <| .nil)) rfl rfl ?_; refine mw rfl rfl rfl ?_; refine mw rfl rfl rfl ?_; refine TrL.fin (End.nxt (Tr.seq (Tr.rg ?_)))
  refine mw rfl rfl rfl ?_; refine TrL.fin (End.nxt (Tr.seq (Tr.seq (Tr.rg ?_)))); refine mw rfl rfl rfl ?_; refine TrL.fin (End.nxt ?_)
  refine Tr.for1 (σ := Nat) [⟨0, true, _, _⟩, ⟨1, true, _, _⟩] [] (fun i => [⟨6, true, [], kI (i : Int)⟩, ⟨5, true, [], kRd (eL eI) (lstZ (val ((lstZ (val xs)).take i) * val (lstZ (val ys))))⟩]) (fun i => []) (fun i => i ≤ (lstZ (val xs)).length) (fun i => i = (lstZ (val xs)).length) (fun i => (lstZ (val xs)).length - i) (0) (Nat.zero_le _) (Ent.mk (.i rfl (by first | rfl | omega | simp <;> omega | assumption) <| .n rfl (by simp [val, lst_zero]) <| .k rfl rfl <| .k rfl rfl <| .nil) (.nil) rfl) ?_ ?_
  · intro i hR0
    refine Tr.norm (S' := [⟨6, true, _, _⟩, ⟨5, true, _, _⟩, ⟨0, true, _, _⟩, ⟨1, true, _, _⟩]) (M' := []) rfl rfl ?_
    have hbx := fun (h : i < (lstZ (val xs)).length) => lst_bd h
    have hdo := dl_mul (val ((lstZ (val xs)).take i)) (val (lstZ (val ys)))
    have hdt := dl_val ((lst_in (val xs)).take i)
    have htl : ((lstZ (val xs)).take i).length ≤ i := by rw [List.length_take]; omega
    have hdv : dl (val (lstZ (val ys))) = dl (val ys) := by rw [lst_val]
    refine Tr.seq (Tr.seq (Tr.rg ?_)); refine mv rfl rfl rfl ?_; refine mv rfl rfl rfl ?_; refine tO (ok_lenJ rfl uu) rfl rfl ?_; refine tO (ok_lss rfl uu rfl uu) rfl rfl ?_; refine TrL.fin (End.nxt ?_); refine Tr.cnd rfl ?_ ?_
    · intro h4
      replace h4 := of_decide_eq_true h4
      refine Tr.skip (End.nxt (Tr.seq (Tr.blk (Tr.seq (Tr.rg ?_))))); refine mv rfl rfl rfl ?_; refine TrL.new (ok_makeN eI 20 rfl uu rfl uu rfl rfl rfl (fun _ => by omega)) rfl rfl rfl rfl ?_; refine mw rfl rfl rfl ?_; refine TrL.fin (End.nxt (Tr.seq (Tr.seq (Tr.rg ?_)))); refine mw rfl rfl rfl ?_; refine TrL.fin (End.nxt ?_)
      refine Tr.for1 (σ := Nat) [⟨0, true, _, _⟩, ⟨1, true, _, _⟩, ⟨5, true, _, _⟩, ⟨6, true, _, _⟩] [] (fun k => [⟨8, true, [], kI (k : Int)⟩, ⟨7, true, [20], kOsl 20 (i + k)⟩]) (fun k => [⟨20, [], cArr false 3 eI (mrow (lstZ (val xs)) (lstZ (val ys)) i k) (i + k)⟩]) (fun k => k ≤ (lstZ (val ys)).length) (fun k => k = (lstZ (val ys)).length) (fun k => (lstZ (val ys)).length - k) (0) (Nat.zero_le _) (Ent.mk (.i rfl (by first | rfl | omega | simp <;> omega | assumption) <| .o rfl (by first | rfl | omega | simp <;> omega | assumption) rfl <| .k rfl rfl <| .k rfl rfl <| .k rfl rfl <| .k rfl rfl <| .nil) (.a mrow_zero (by first | rfl | omega | simp <;> omega | assumption) <| .nil) rfl) ?_ ?_
      · intro k hR1
        refine Tr.norm (S' := [⟨8, true, _, _⟩, ⟨7, true, _, _⟩, ⟨0, true, _, _⟩, ⟨1, true, _, _⟩, ⟨5, true, _, _⟩, ⟨6, true, _, _⟩]) (M' := [⟨20, _, _⟩]) rfl rfl ?_
        have hby := fun (h : k < (lstZ (val ys)).length) => lst_bd h
        have hb := fun (h : i < (lstZ (val xs)).length) (h2 : k < (lstZ (val ys)).length) => mul_bd (lst_bd h) (lst_bd h2)
        refine Tr.seq (Tr.seq (Tr.rg ?_)); refine mv rfl rfl rfl ?_; refine mv rfl rfl rfl ?_; refine tO (ok_lenJ rfl uu) rfl rfl ?_; refine tO (ok_lss rfl uu rfl uu) rfl rfl ?_; refine TrL.fin (End.nxt ?_); refine Tr.cnd rfl ?_ ?_
        · intro h8
          replace h8 := of_decide_eq_true h8
          refine Tr.skip (End.nxt (Tr.seq (Tr.blk ?_))); refine Tr.draw 11 mixed (by kernel_rfl) ?_
          have hbb := hb (by omega) (by omega)
          refine rO (ok_move rfl uu) rfl rfl ?_; refine rO (ok_move rfl uu) rfl rfl ?_; refine rO (ok_move rfl uu) rfl rfl ?_
          first | refine rO (ok_idxN rfl uu rfl uu rfl (fun _ => by omega)) rfl rfl ?_ | refine rO (ok_idxP rfl uu rfl uu rfl (fun _ => by omega)) rfl rfl ?_
          refine rO (ok_ldP rfl uu rfl) rfl rfl ?_; refine rO (ok_move rfl uu) rfl rfl ?_; refine rO (ok_move rfl uu) rfl rfl ?_
          first | refine rO (ok_idxN rfl uu rfl uu rfl (fun _ => by omega)) rfl rfl ?_ | refine rO (ok_idxP rfl uu rfl uu rfl (fun _ => by omega)) rfl rfl ?_
          refine rO (ok_ldP rfl uu rfl) rfl rfl ?_; refine rO (ok_mul rfl uu rfl uu (fun _ => by omega)) rfl rfl ?_; refine RunD.new (ok_bsl eI 37 (fun hp => .cons rfl <| .nil) rfl rfl rfl rfl) rfl rfl rfl rfl ?_; refine RunD.z ?_
          refine TrL.app rfl rfl rfl rfl rfl rfl rfl rfl (by first | omega | (simp only [List.length_cons, List.length_nil]; omega)) (by first | omega | (simp only [List.length_cons, List.length_nil]; omega)) ?_
          refine TrL.norm (S' := [⟨_, _, _, _⟩, ⟨_, _, _, _⟩, ⟨_, _, _, _⟩, ⟨_, _, _, _⟩, ⟨_, _, _, _⟩, ⟨_, _, _, _⟩, ⟨_, _, _, _⟩, ⟨_, _, _, _⟩, ⟨_, _, _, _⟩, ⟨_, _, _, _⟩, ⟨_, _, _, _⟩, ⟨_, _, _, _⟩, ⟨_, _, _, _⟩, ⟨_, _, _, _⟩, ⟨_, _, _, _⟩, ⟨_, _, _, _⟩, ⟨_, _, _, _⟩, ⟨_, _, _, _⟩, ⟨_, _, _, _⟩, ⟨_, _, _, _⟩, ⟨_, _, _, _⟩, ⟨_, _, _, _⟩]) rfl rfl ?_; refine mw rfl rfl rfl ?_; refine TrL.fin (End.blk (End.nxt (Tr.rg ?_))); refine mv rfl rfl rfl ?_; refine tO (ok_add rfl uu rfl uu (fun _ => by omega)) rfl rfl ?_; refine mw rfl rfl rfl ?_
          refine TrL.fin ?_
          exact End.lp (k + 1) (by first | rfl | omega | simp <;> omega | assumption) (by omega) (Ent.mk (.i rfl (by first | rfl | omega | simp <;> omega | assumption) <| .o rfl (by first | rfl | omega | simp <;> omega | assumption) rfl <| .k rfl rfl <| .k rfl rfl <| .k rfl rfl <| .k rfl rfl <| .nil) (.a mrow_succ (by first | rfl | omega | simp <;> omega | assumption) <| .nil) rfl)
        · intro h8
          replace h8 := Int.not_lt.1 (of_decide_eq_false h8)
          refine Tr.exit (Exs.thn (Exs.thn (Exs.here ?_)))
          exact End.cut (k) (by omega) (Ent.mk (.i rfl (by first | rfl | omega | simp <;> omega | assumption) <| .o rfl (by first | rfl | omega | simp <;> omega | assumption) rfl <| .k rfl rfl <| .k rfl rfl <| .k rfl rfl <| .k rfl rfl <| .nil) (.a (by first | rfl | omega | simp <;> omega | assumption) (by first | rfl | omega | simp <;> omega | assumption) <| .nil) rfl)
      · rintro _ rfl
        refine End.norm (S' := [⟨8, true, _, _⟩, ⟨7, true, _, _⟩, ⟨0, true, _, _⟩, ⟨1, true, _, _⟩, ⟨5, true, _, _⟩, ⟨6, true, _, _⟩]) (M' := [⟨20, _, _⟩]) rfl rfl ?_
        have hrl := mrow_len (xs := (lstZ (val xs))) (ys := (lstZ (val ys))) (i := i) (k := (lstZ (val ys)).length)
        refine End.nxt (Tr.rg ?_); refine mv rfl rfl rfl ?_; refine mv rfl rfl rfl ?_; refine TrL.frz 20 [7, 40] ⟨rfl, rfl, trivial⟩ (by simp only [lenMax]; omega) rfl ?_; refine TrL.norm (S' := [⟨_, _, _, _⟩, ⟨_, _, _, _⟩, ⟨_, _, _, _⟩, ⟨_, _, _, _⟩, ⟨_, _, _, _⟩, ⟨_, _, _, _⟩, ⟨_, _, _, _⟩, ⟨_, _, _, _⟩, ⟨_, _, _, _⟩, ⟨_, _, _, _⟩]) rfl rfl ?_; refine tO (ok_call (fun hp => ct_rAdd _ (mrow (lstZ (val xs)) (lstZ (val ys)) i (lstZ (val ys)).length) (lst_in _) (mrow_in (by omega) (Nat.le_refl _)) (by rw [lst_len]; omega) (by rw [hrl]; omega)) (.a rfl uu <| .a rfl uu <| .nil)) rfl rfl ?_
        refine mw rfl rfl rfl ?_; refine TrL.fin (End.blk (End.nxt (Tr.rg ?_))); refine mv rfl rfl rfl ?_; refine tO (ok_add rfl uu rfl uu (fun _ => by omega)) rfl rfl ?_; refine mw rfl rfl rfl ?_; refine TrL.fin ?_
        exact End.lp (i + 1) (by first | rfl | omega | simp <;> omega | assumption) (by omega) (Ent.mk (.i rfl (by first | rfl | omega | simp <;> omega | assumption) <| .r rfl (by rw [lst_val, mul_step (by omega)]) <| .k rfl rfl <| .k rfl rfl <| .nil) (.nil) rfl)
    · intro h4
      replace h4 := Int.not_lt.1 (of_decide_eq_false h4)
      refine Tr.exit (Exs.thn (Exs.thn (Exs.here ?_)))
      exact End.cut (i) (by omega) (Ent.mk (.i rfl (by first | rfl | omega | simp <;> omega | assumption) <| .r rfl (by first | rfl | omega | simp <;> omega | assumption) <| .k rfl rfl <| .k rfl rfl <| .nil) (.nil) rfl)
  · rintro _ rfl
    refine End.norm (S' := [⟨6, true, _, _⟩, ⟨5, true, _, _⟩, ⟨0, true, _, _⟩, ⟨1, true, _, _⟩]) (M' := []) rfl rfl ?_
    have hfin : val ((lstZ (val xs)).take (lstZ (val xs)).length) = val xs := by rw [List.take_length, lst_val]
    refine End.nxt (Tr.seq (Tr.rg ?_)); refine mv rfl rfl rfl ?_; refine tO (ok_call (fun hp => ct_rNormal _ (lst_in _) (by rw [lst_len, hfin, lst_val]; have := dl_mul (val xs) (val ys); omega)) (.a rfl uu <| .nil)) rfl rfl ?_; refine mw rfl rfl rfl ?_; refine TrL.fin (End.nxt (Tr.ret ?_)); exact Rts.res1 (fn := Tryz.f168) rfl (.r rfl (by rw [hfin, lst_val, lst_val]) <| .nil)

set_option maxRecDepth 100000 in
theorem ct_rSign (xs : List Int) (hx : InI xs) (hn : xs.length ≤ 1000000) : Ct Tryz.prog 84 [kRd (eL eI) xs] (kI (cmpZ (val xs) 0)) := by
  have hl0 := lst_len0 (z := val xs)
  refine Ct.mk Tryz.func84 rfl Tryz.ntmps84 rfl (fun w J => ?_); refine Tr.seq (Tr.rg ?_); refine mw rfl rfl rfl ?_; refine TrL.fin (End.nxt (Tr.seq (Tr.rg ?_))); refine mv rfl rfl rfl ?_; refine tO (ok_call (fun hp => ct_rNormal _ (by assumption) (by omega)) (.a rfl uu <| .nil)) rfl rfl ?_; refine mw rfl rfl rfl ?_; refine TrL.fin (End.nxt (Tr.seq (Tr.seq (Tr.rg ?_)))); refine mv rfl rfl rfl ?_; refine tO (ok_lenJ rfl uu) rfl rfl ?_; refine tO (ok_eql rfl uu rfl uu) rfl rfl ?_; refine TrL.fin (End.nxt ?_); refine Tr.cnd rfl ?_ ?_
  · intro h2
    replace h2 := of_decide_eq_true h2
    refine Tr.seq (Tr.rg ?_); refine mw rfl rfl rfl ?_; refine TrL.fin (End.nxt (Tr.ret (Rts.thn ?_))); exact Rts.res1 (fn := Tryz.f84) rfl (.i rfl (cmpZ_eq (by omega)).symm <| .nil)
  · intro h2
    replace h2 := of_decide_eq_false h2
    refine Tr.skip (End.nxt (Tr.seq (Tr.seq (Tr.rg ?_)))); refine mv rfl rfl rfl ?_; refine tO (ok_call (fun hp => ct_rNegative _) (.a rfl uu <| .nil)) rfl rfl ?_; refine TrL.fin (End.nxt ?_); refine Tr.cnd rfl ?_ ?_
    · intro h4
      refine Tr.seq (Tr.rg ?_); refine mw rfl rfl rfl ?_; refine TrL.fin (End.nxt (Tr.ret (Rts.thn ?_))); exact Rts.res1 (fn := Tryz.f84) rfl (.i rfl (cmpZ_lt (of_decide_eq_true h4)).symm <| .nil)
    · intro h4
      refine Tr.skip (End.nxt (Tr.seq (Tr.rg ?_))); refine mw rfl rfl rfl ?_; refine TrL.fin (End.nxt (Tr.ret ?_)); exact Rts.res1 (fn := Tryz.f84) rfl (.i rfl (cmpZ_gt (by have := of_decide_eq_false h4; omega)).symm <| .nil)

end Go.Fl

/- Contracts: the rational field is one. -/
namespace Go.Fl
open Go Go.Proofs
open TrL renaming op → tO
open RunD renaming op → rO

abbrev FdT := List Int × Int × Int × Int
def eFd : Enc FdT := eC (fun v : FdT => (v.1, v.2.1, v.2.2.1, v.2.2.2, ())) (eP (eL eI) (eP eI (eP eI (eP eI eU))))
instance {v : FdT} : CellsK (kRd eFd v) [kRd (eL eI) (v.1), kI (v.2.1), kI (v.2.2.1), kI (v.2.2.2)] := inferInstanceAs (CellsK (kRd (eC (fun v : FdT => (v.1, v.2.1, v.2.2.1, v.2.2.2, ())) (eP (eL eI) (eP eI (eP eI (eP eI eU))))) v) _)
instance {v : FdT} {tl : List Know} : EncCells eFd v tl (kRd (eL eI) (v.1) :: kI (v.2.1) :: kI (v.2.2.1) :: kI (v.2.2.2) :: tl) := inferInstanceAs (EncCells (eC (fun v : FdT => (v.1, v.2.1, v.2.2.1, v.2.2.2, ())) (eP (eL eI) (eP eI (eP eI (eP eI eU))))) v tl _)
instance {v : FdT} : Norm eFd v (kRd eFd v) := ⟨fun h => h⟩
instance {v : FdT} : FieldP eFd v 0 (eL eI) (v.1) 0 := inferInstanceAs (FieldP (eC (fun v : FdT => (v.1, v.2.1, v.2.2.1, v.2.2.2, ())) (eP (eL eI) (eP eI (eP eI (eP eI eU))))) v 0 _ _ _)
instance {v : FdT} : FieldP eFd v 1 eI (v.2.1) 1 := inferInstanceAs (FieldP (eC (fun v : FdT => (v.1, v.2.1, v.2.2.1, v.2.2.2, ())) (eP (eL eI) (eP eI (eP eI (eP eI eU))))) v 1 _ _ _)
instance {v : FdT} : FieldP eFd v 2 eI (v.2.2.1) 2 := inferInstanceAs (FieldP (eC (fun v : FdT => (v.1, v.2.1, v.2.2.1, v.2.2.2, ())) (eP (eL eI) (eP eI (eP eI (eP eI eU))))) v 2 _ _ _)
instance {v : FdT} : FieldP eFd v 3 eI (v.2.2.2) 3 := inferInstanceAs (FieldP (eC (fun v : FdT => (v.1, v.2.1, v.2.2.1, v.2.2.2, ())) (eP (eL eI) (eP eI (eP eI (eP eI eU))))) v 3 _ _ _)
instance {ks r : List Know} {a : List Int} {b c d : Int} [h : RdOf ks (eP (eL eI) (eP eI (eP eI (eP eI eU)))) (a, b, c, d, ()) r] : RdOf ks eFd ((a, b, c, d)) r := ⟨fun h' => h.imp h'⟩
def ratF : FdT := ([0, 1], 0, 0, 1)
def outCf (c : Int) : Bool := !decide (-1000 ≤ c ∧ c ≤ 1000)
set_option maxRecDepth 100000 in
theorem ct_IndexFunc (xs : List Int) (f : FuncId) (q : Int → Bool) [TyFn Tryz.prog f] (hf : ∀ x, Ct Tryz.prog f [kI x] (kB (q x))) : Ct Tryz.prog 87 [kRd (eL eI) xs, kDet (.func (.func f) #[] #[])] (kI (idxF q xs)) := by
  refine Ct.mk Tryz.func87 rfl Tryz.ntmps87 rfl (fun w J => ?_); refine Tr.fact (s := 0) rfl (fun _ _ h => lenB h) (fun hb => ?_); refine Tr.seq (Tr.rg ?_); refine mw rfl rfl rfl ?_; refine TrL.fin (End.nxt (Tr.seq (Tr.seq (Tr.rg ?_)))); refine mv rfl rfl rfl ?_; refine tO (ok_lenJ rfl uu) rfl rfl ?_; refine mv rfl rfl rfl ?_; refine TrL.fin (End.nxt ?_)
  refine Tr.for1 (σ := Nat) [⟨0, true, _, _⟩, ⟨1, true, _, _⟩, ⟨7, true, _, _⟩] [] (fun k => [⟨8, true, [], kI (k : Int)⟩]) (fun k => []) (fun k => k ≤ xs.length ∧ ∀ i, i < k → q (nth xs i) = false) (fun k => ∀ i, i < xs.length → q (nth xs i) = false) (fun k => xs.length - k) (0) ⟨by omega, fun i h => absurd h (by omega)⟩ (Ent.mk (.i rfl (by first | rfl | omega | simp <;> omega | assumption) <| .k rfl rfl <| .k rfl rfl <| .k rfl rfl <| .nil) (.nil) rfl) ?_ ?_
  · rintro k ⟨hk, hR⟩
    refine Tr.norm (S' := [⟨8, true, _, _⟩, ⟨0, true, _, _⟩, ⟨1, true, _, _⟩, ⟨7, true, _, _⟩]) (M' := []) rfl rfl ?_; refine Tr.seq (Tr.rg ?_); refine tO (ok_lss rfl uu rfl uu) rfl rfl ?_; refine TrL.fin (End.nxt (Tr.seq ?_)); refine Tr.cnd rfl ?_ ?_
    · intro h2
      replace h2 := of_decide_eq_true h2
      refine Tr.skip (End.nxt (Tr.seq (Tr.blk (Tr.seq (Tr.rg ?_))))); refine mv rfl rfl rfl ?_; refine mw rfl rfl rfl ?_; refine TrL.fin (End.nxt (Tr.seq (Tr.rg ?_))); refine mv rfl rfl rfl ?_; refine mv rfl rfl rfl ?_; refine mv rfl rfl rfl ?_
      first | refine tO (ok_idxN rfl uu rfl uu rfl (fun _ => by omega)) rfl rfl ?_ | refine tO (ok_idxP rfl uu rfl uu rfl (fun _ => by omega)) rfl rfl ?_
      refine tO (ok_ldP rfl uu rfl) rfl rfl ?_; refine tO (ok_callV rfl uu (fun hp => hf _) (.a rfl uu <| .nil)) rfl rfl ?_; refine TrL.fin (End.nxt ?_); refine Tr.cnd rfl ?_ ?_
      · intro h4
        refine Tr.seq (Tr.rg ?_); refine mv rfl rfl rfl ?_; refine mw rfl rfl rfl ?_; refine TrL.fin (End.nxt (Tr.ret (Rts.out (Rts.thn (Rts.thn (Rts.out (Rts.thn (Rts.thn ?_)))))))); exact Rts.res1 (fn := Tryz.f87) rfl (.i rfl (idxF_at (by omega) hR h4) <| .nil)
      · intro h4
        refine Tr.skip (End.blk (End.nxt (Tr.rg ?_))); refine tO (ok_add rfl uu rfl uu (fun _ => by omega)) rfl rfl ?_; refine mv rfl rfl rfl ?_; refine TrL.fin ?_
        exact End.lp (k + 1) ⟨by omega, fun i hi => by (rcases Nat.lt_succ_iff_lt_or_eq.1 hi with h | h; exact hR i h; subst h; exact h4)⟩ (by omega) (Ent.mk (.i rfl (by first | rfl | omega | simp <;> omega | assumption) <| .k rfl rfl <| .k rfl rfl <| .k rfl rfl <| .nil) (.nil) rfl)
    · intro h2
      replace h2 := Int.not_lt.1 (of_decide_eq_false h2)
      refine Tr.exit (Exs.thn (Exs.thn (Exs.here ?_)))
      exact End.cut (k) (fun i hi => hR i (by omega)) (Ent.mk (.i rfl (by first | rfl | omega | simp <;> omega | assumption) <| .k rfl rfl <| .k rfl rfl <| .k rfl rfl <| .nil) (.nil) rfl)
  · intro k hE
    refine End.norm (S' := [⟨8, true, _, _⟩, ⟨0, true, _, _⟩, ⟨1, true, _, _⟩, ⟨7, true, _, _⟩]) (M' := []) rfl rfl ?_; refine End.nxt (Tr.seq (Tr.rg ?_)); refine mw rfl rfl rfl ?_; refine TrL.fin (End.nxt (Tr.ret ?_)); exact Rts.res1 (fn := Tryz.f87) rfl (.i rfl (idxF_none hE) <| .nil)

set_option maxRecDepth 100000 in
theorem ct_ContainsFunc (xs : List Int) (f : FuncId) (q : Int → Bool) [TyFn Tryz.prog f] (hf : ∀ x, Ct Tryz.prog f [kI x] (kB (q x))) : Ct Tryz.prog 53 [kRd (eL eI) xs, kDet (.func (.func f) #[] #[])] (kB (xs.any q)) := by
  refine Ct.mk Tryz.func53 rfl Tryz.ntmps53 rfl (fun w J => ?_); refine Tr.seq (Tr.rg ?_); refine mw rfl rfl rfl ?_; refine TrL.fin (End.nxt (Tr.seq (Tr.rg ?_))); refine mv rfl rfl rfl ?_; refine mv rfl rfl rfl ?_; refine tO (ok_call (fun hp => ct_IndexFunc _ f q hf) (.a rfl uu <| .a rfl uu <| .nil)) rfl rfl ?_; refine tO (ok_geq rfl uu rfl uu) rfl rfl ?_; refine mw rfl rfl rfl ?_; refine TrL.fin (End.nxt (Tr.ret ?_)); exact Rts.res1 (fn := Tryz.f53) rfl (.b rfl idxF_nonneg <| .nil)

set_option maxRecDepth 100000 in
theorem ct_between (n a b : Int) : Ct Tryz.prog 148 [kI n, kI a, kI b] (kB (decide (a ≤ n ∧ n ≤ b))) := by
  refine Ct.mk Tryz.func148 rfl Tryz.ntmps148 rfl (fun w J => ?_); refine Tr.seq (Tr.rg ?_); refine mw rfl rfl rfl ?_; refine TrL.fin (End.nxt (Tr.seq (Tr.rg ?_))); refine mv rfl rfl rfl ?_; refine mv rfl rfl rfl ?_; refine tO (ok_geq rfl uu rfl uu) rfl rfl ?_; refine mv rfl rfl rfl ?_; refine TrL.gd rfl rfl rfl (ok_move rfl uu) rfl rfl ?_; refine TrL.gd rfl rfl rfl (ok_move rfl uu) rfl rfl ?_; refine TrL.gd rfl rfl rfl (ok_leq rfl id rfl id) rfl rfl ?_; refine tO (ok_and rfl uu rfl (fun hp h => gdT2 ((fun _ => rfl) hp) h)) rfl rfl ?_
  refine mw rfl rfl rfl ?_; refine TrL.fin (End.nxt (Tr.ret ?_)); exact Rts.res1 (fn := Tryz.f148) rfl (.b rfl (by symm; exact Bool.decide_and _ _) <| .nil)

set_option maxRecDepth 100000 in
theorem ct_fCheck1 (c : Int) : Ct Tryz.prog 149 [kI c] (kB (outCf c)) := by
  refine Ct.mk Tryz.func149 rfl Tryz.ntmps149 rfl (fun w J => ?_); refine Tr.seq (Tr.rg ?_); refine mw rfl rfl rfl ?_; refine TrL.fin (End.nxt (Tr.seq (Tr.rg ?_))); refine mv rfl rfl rfl ?_; refine tO (ok_call (fun hp => ct_between _ _ _) (.a rfl uu <| .a rfl uu <| .a rfl uu <| .nil)) rfl rfl ?_; refine tO (ok_not rfl uu) rfl rfl ?_; refine mw rfl rfl rfl ?_; refine TrL.fin (End.nxt (Tr.ret ?_)); exact Rts.res1 (fn := Tryz.f149) rfl (.b rfl (by rfl) <| .nil)

set_option maxRecDepth 100000 in
theorem ct_divided2 (p : List Int) (hp : p.length = 2) : Ct Tryz.prog 150 [kRd (eL eI) p] (kB false) := by
  refine Ct.mk Tryz.func150 rfl Tryz.ntmps150 rfl (fun w J => ?_); refine Tr.seq (Tr.rg ?_); refine TrL.new (ok_box 1 rfl uu rfl) rfl rfl rfl rfl ?_; refine mw rfl rfl rfl ?_; refine TrL.fin (End.nxt (Tr.seq (Tr.rg ?_))); refine tO (ok_ldB rfl uu rfl) rfl rfl ?_; refine tO (ok_lenJ rfl uu) rfl rfl ?_; refine tO (ok_sub rfl uu rfl uu (fun _ => by omega)) rfl rfl ?_; refine mw rfl rfl rfl ?_; refine TrL.fin (End.nxt (Tr.seq (Tr.blk (Tr.seq (Tr.rg ?_))))); refine mv rfl rfl rfl ?_; refine tO (ok_eql rfl uu rfl uu) rfl rfl ?_; refine mw rfl rfl rfl ?_
  refine TrL.fin (End.nxt ?_); refine Tr.cnd rfl ?_ ?_
  · intro h2
    try simp only [decide_eq_true_eq] at h2
    refine Tr.seq (Tr.rg ?_); refine mw rfl rfl rfl ?_; refine TrL.fin (End.nxt (Tr.ret (Rts.out (Rts.thn ?_)))); exact Rts.res1 (fn := Tryz.f150) rfl (.b rfl (by rfl) <| .nil)
  · intro h2
    try simp only [decide_eq_false_iff_not] at h2
    exact absurd h2 (by omega)

set_option maxRecDepth 100000 in
theorem ct_oneRat  : Ct Tryz.prog 151 [kRd eFd ratF] (kB true) := by
  have q0 : ratF.1.length = 2 := rfl
  have q2 : nth ratF.1 (Int.toNat 0) = 0 := rfl
  have q3 : ratF.2.2.2 = 1 := rfl
  have q4 : -nth ratF.1 (Int.toNat 0) * ratF.2.2.2 = 0 := by decide
  refine Ct.mk Tryz.func151 rfl Tryz.ntmps151 rfl (fun w J => ?_); refine Tr.seq (Tr.rg ?_); refine TrL.new (ok_box 1 rfl uu rfl) rfl rfl rfl rfl ?_; refine mw rfl rfl rfl ?_; refine TrL.fin (End.nxt (Tr.seq (Tr.seq (Tr.rg ?_)))); refine tO (ok_fldO rfl uu) rfl rfl ?_; refine tO (ok_ldB rfl uu rfl) rfl rfl ?_; refine tO (ok_lenJ rfl uu) rfl rfl ?_; refine tO (ok_eql rfl uu rfl uu) rfl rfl ?_; refine TrL.fin (End.nxt ?_); refine Tr.cnd rfl ?_ ?_
  · intro h1
    refine Tr.seq ?_; refine Tr.draw 12 mixed (by kernel_rfl) ?_; refine rO (ok_fldO rfl uu) rfl rfl ?_; refine rO (ok_ldB rfl uu rfl) rfl rfl ?_
    first | refine rO (ok_idxN rfl uu rfl uu rfl (fun _ => by omega)) rfl rfl ?_ | refine rO (ok_idxP rfl uu rfl uu rfl (fun _ => by omega)) rfl rfl ?_
    refine rO (ok_ldP rfl uu rfl) rfl rfl ?_; refine rO (ok_neg rfl uu (fun _ => by omega)) rfl rfl ?_; refine rO (ok_fldO rfl uu) rfl rfl ?_; refine rO (ok_ldB rfl uu rfl) rfl rfl ?_; refine rO (ok_mul rfl uu rfl uu (fun _ => by omega)) rfl rfl ?_; refine rO (ok_fldO rfl uu) rfl rfl ?_; refine rO (ok_ldB rfl uu rfl) rfl rfl ?_; refine rO (ok_fldO rfl uu) rfl rfl ?_; refine rO (ok_ldB rfl uu rfl) rfl rfl ?_; refine RunD.z ?_; refine tO (ok_call (fun hp => ct_between _ _ _) (.a rfl uu <| .a rfl uu <| .a rfl uu <| .nil)) rfl rfl ?_; refine mw rfl rfl rfl ?_
    refine TrL.fin (End.nxt (Tr.ret (Rts.thn ?_))); exact Rts.res1 (fn := Tryz.f151) rfl (.b rfl (by decide) <| .nil)
  · intro h1
    exact absurd h1 (by decide)

set_option maxRecDepth 100000 in
theorem ct_fCheckRat  : Ct Tryz.prog 106 [kRd eFd ratF] (kI 0) := by
  have q0 : ratF.1.length = 2 := rfl
  have q2 : nth ratF.1 (Int.toNat 0) = 0 := rfl
  have q3 : ratF.2.2.2 = 1 := rfl
  have q4 : -nth ratF.1 (Int.toNat 0) * ratF.2.2.2 = 0 := by decide
  refine Ct.mk Tryz.func106 rfl Tryz.ntmps106 rfl (fun w J => ?_); refine Tr.seq (Tr.rg ?_); refine TrL.new (ok_box 1 rfl uu rfl) rfl rfl rfl rfl ?_; refine mw rfl rfl rfl ?_; refine TrL.fin (End.nxt (Tr.seq (Tr.rg ?_))); refine tO (ok_fldO rfl uu) rfl rfl ?_; refine tO (ok_ldB rfl uu rfl) rfl rfl ?_; refine tO (ok_lenJ rfl uu) rfl rfl ?_; refine mw rfl rfl rfl ?_; refine TrL.fin (End.nxt (Tr.seq (Tr.blk (Tr.seq (Tr.rg ?_))))); refine mv rfl rfl rfl ?_; refine tO (ok_call (fun hp => ct_between _ _ _) (.a rfl uu <| .a rfl uu <| .a rfl uu <| .nil)) rfl rfl ?_
  refine tO (ok_not rfl uu) rfl rfl ?_; refine mw rfl rfl rfl ?_; refine TrL.fin (End.nxt ?_); refine Tr.cnd rfl ?_ ?_
  · intro h2
    exact absurd h2 (by decide)
  · intro h2
    refine Tr.seq (Tr.rg ?_); refine tO (ok_fldO rfl uu) rfl rfl ?_; refine tO (ok_ldB rfl uu rfl) rfl rfl ?_; refine tO (ok_call (fun hp => ct_ContainsFunc _ 149 outCf (fun x => ct_fCheck1 x)) (.a rfl uu <| .a rfl uu <| .nil)) rfl rfl ?_; refine mw rfl rfl rfl ?_; refine TrL.fin (End.nxt ?_); refine Tr.cnd rfl ?_ ?_
    · intro h4
      exact absurd h4 (by decide)
    · intro h4
      refine Tr.seq (Tr.rg ?_); refine tO (ok_fldO rfl uu) rfl rfl ?_; refine tO (ok_ldB rfl uu rfl) rfl rfl ?_; refine tO (ok_call (fun hp => ct_between _ _ _) (.a rfl uu <| .a rfl uu <| .a rfl uu <| .nil)) rfl rfl ?_; refine tO (ok_not rfl uu) rfl rfl ?_; refine mv rfl rfl rfl ?_; refine TrL.gd rfl rfl rfl (ok_fldO rfl uu) rfl rfl ?_; refine TrL.gd rfl rfl rfl (ok_ldB rfl id rfl) rfl rfl ?_; refine TrL.gd rfl rfl rfl (ok_call (fun hp => ct_between _ _ _) (.a rfl id <| .a rfl uu <| .a rfl uu <| .nil)) rfl rfl ?_; refine TrL.gd rfl rfl rfl (ok_not rfl id) rfl rfl ?_
      refine tO (ok_or rfl uu rfl (fun hp h => gdF2 ((fun _ => rfl) hp) h)) rfl rfl ?_; refine mv rfl rfl rfl ?_; refine TrL.gd rfl rfl rfl (ok_fldO rfl uu) rfl rfl ?_; refine TrL.gd rfl rfl rfl (ok_ldB rfl id rfl) rfl rfl ?_; refine TrL.gd rfl rfl rfl (ok_call (fun hp => ct_between _ _ _) (.a rfl id <| .a rfl uu <| .a rfl uu <| .nil)) rfl rfl ?_; refine TrL.gd rfl rfl rfl (ok_not rfl id) rfl rfl ?_; refine tO (ok_or rfl uu rfl (fun hp h => gdF2 ((fun _ => rfl) hp) h)) rfl rfl ?_; refine mw rfl rfl rfl ?_; refine TrL.fin (End.nxt ?_); refine Tr.cnd rfl ?_ ?_
      · intro h6
        exact absurd h6 (by decide)
      · intro h6
        refine Tr.seq (Tr.rg ?_); refine tO (ok_fldO rfl uu) rfl rfl ?_; refine tO (ok_ldB rfl uu rfl) rfl rfl ?_; refine mv rfl rfl rfl ?_; refine tO (ok_sub rfl uu rfl uu (fun _ => by omega)) rfl rfl ?_
        first | refine tO (ok_idxN rfl uu rfl uu rfl (fun _ => by omega)) rfl rfl ?_ | refine tO (ok_idxP rfl uu rfl uu rfl (fun _ => by omega)) rfl rfl ?_
        refine tO (ok_ldP rfl uu rfl) rfl rfl ?_; refine tO (ok_neq rfl uu rfl uu) rfl rfl ?_; refine mv rfl rfl rfl ?_; refine TrL.gd rfl rfl rfl (ok_fldO rfl uu) rfl rfl ?_; refine TrL.gd rfl rfl rfl (ok_ldB rfl id rfl) rfl rfl ?_; refine TrL.gd rfl rfl rfl (ok_call (fun hp => ct_divided2 _ (by decide)) (.a rfl id <| .nil)) rfl rfl ?_; refine tO (ok_or rfl uu rfl (fun hp h => gdF2 ((fun _ => rfl) hp) h)) rfl rfl ?_; refine mw rfl rfl rfl ?_; refine TrL.fin (End.nxt ?_); refine Tr.cnd rfl ?_ ?_
        · intro h8
          exact absurd h8 (by decide)
        · intro h8
          refine Tr.seq (Tr.rg ?_); refine tO (ok_fldO rfl uu) rfl rfl ?_; refine tO (ok_ldB rfl uu rfl) rfl rfl ?_; refine tO (ok_fldO rfl uu) rfl rfl ?_; refine tO (ok_ldB rfl uu rfl) rfl rfl ?_; refine tO (ok_gtr rfl uu rfl uu) rfl rfl ?_; refine mw rfl rfl rfl ?_; refine TrL.fin (End.nxt ?_); refine Tr.cnd rfl ?_ ?_
          · intro h10
            exact absurd h10 (by decide)
          · intro h10
            refine Tr.seq (Tr.rg ?_); refine tO (ok_ldBS rfl uu) rfl rfl ?_; refine tO (ok_call (fun hp => ct_oneRat) (.s rfl uu rfl <| .nil)) rfl rfl ?_; refine tO (ok_not rfl uu) rfl rfl ?_; refine mw rfl rfl rfl ?_; refine TrL.fin (End.nxt ?_); refine Tr.cnd rfl ?_ ?_
            · intro h12
              exact absurd h12 (by decide)
            · intro h12
              refine Tr.skip (End.blk (End.nxt (Tr.seq (Tr.rg ?_)))); refine mw rfl rfl rfl ?_; refine TrL.fin (End.nxt (Tr.ret ?_)); exact Rts.res1 (fn := Tryz.f106) rfl (.i rfl (by rfl) <| .nil)

set_option maxRecDepth 100000 in
theorem ct_rRational  : Ct Tryz.prog 50 [] (kRd eFd ratF) := by
  refine Ct.mk Tryz.func50 rfl Tryz.ntmps50 rfl (fun w J => ?_); refine Tr.seq (Tr.rg ?_); refine TrL.new (ok_alloc 0) rfl rfl rfl rfl ?_; refine TrL.fin (End.nxt (Tr.seq (Tr.rg ?_))); refine TrL.new (ok_bsl eI 1 (fun hp => .cons rfl <| .cons rfl <| .nil) rfl rfl rfl rfl) rfl rfl rfl rfl ?_; refine tO (ok_build (fun hp => .cons rfl rfl rfl <| .cons rfl rfl rfl <| .nil)) rfl rfl ?_; refine TrL.stB rfl rfl rfl rfl ?_; refine TrL.fin (End.nxt ?_); refine Tr.frzC 1 0 (by simp only [lenMax]; omega) rfl rfl ?_; refine Tr.ret ?_; exact Rts.resC1 (fn := Tryz.f50) rfl rfl (aggRd rfl (by rfl))

end Go.Fl

/- Loops over what slices.Backward hands back: the body is a round with the frame's temporaries; what the rounds write are things of the call's own, which stay where they are. No program in sight. -/
namespace Go.Fl
open Go Go.RowKit
class CellsC (ct : Cont) : Prop where
  is : ∀ {g : Gh} {b cap : Nat} {o : Option Obj}, ct g (.blk b cap) o → ∃ cs ty fr, o = some (Obj.cells cs ty fr)
instance {ks : List Know} : CellsC (cBlk ks) := ⟨fun ⟨cs, ty, h, _⟩ => ⟨cs, ty, _, h⟩⟩
instance {α : Type} {z : Bool} {ty : TypeId} {e : Enc α} {xs : List α} {len : Nat} : CellsC (cArr z ty e xs len) := ⟨fun ⟨_, _, cs, h, _⟩ => ⟨cs, ty, _, h⟩⟩
class CellsM (M : Conts) : Prop where
  is : ∀ e ∈ M, CellsC e.c
instance : CellsM [] := ⟨fun _ h => by cases h⟩
instance {t : Nat} {d : List Nat} {ct : Cont} {M : Conts} [h : CellsC ct] [hs : CellsM M] : CellsM (⟨t, d, ct⟩ :: M) := ⟨fun e he => by
  rcases List.mem_cons.1 he with rfl | he
  · exact h
  · exact hs.is e he⟩
theorem CellsM.app {M N : Conts} (h : CellsM M) (k : CellsM N) : CellsM (M ++ N) := ⟨fun e he => (List.mem_append.1 he).elim (h.is e) (k.is e)⟩
instance {M N : Conts} [h : CellsM M] [k : CellsM N] : CellsM (M ++ N) := h.app k
def ownL (g : Gh) (M : Conts) : List Nat := (tags M).filterMap fun t => match g.M t with | some (.blk b _) => some b | _ => none
theorem ownL_mem {g : Gh} {M : Conts} {b : Nat} : b ∈ ownL g M ↔ ∃ t ∈ tags M, ∃ cap, g.M t = some (.blk b cap) := by
  unfold ownL
  rw [List.mem_filterMap]
  constructor
  · rintro ⟨t, ht, h⟩
    refine ⟨t, ht, ?_⟩
    cases hg : g.M t with
    | none => rw [hg] at h; cases h
    | some bk =>
      cases bk with
      | nil => rw [hg] at h; cases h
      | blk b' cap => rw [hg] at h; simp only [Option.some.injEq] at h; subst h; exact ⟨cap, rfl⟩
  · rintro ⟨t, ht, cap, h⟩
    exact ⟨t, ht, by rw [h]⟩
section
variable {c : Ctx} {S S' : Slots} {M M' : Conts} {a a' : Act} {g g' : Gh} {W W' : World}
theorem cell_none {W : World} {b off : Nat} {o : Obj} (hl : W.heap[b]? = some o) (ho : o.isCells = false) : W.cell? ⟨b, off, none⟩ = none := by
  cases o <;> first | (simp [World.cell?, hl]; done) | (simp [Obj.isCells] at ho)
theorem Sat.notOwn (h : Sat c S M a g W) (hM : CellsM M) {k : Nat} {o : Obj} (hk : W.heap[k]? = some o) (ho : o.isCells = false) : k ∉ ownL g M := by
  intro hm
  obtain ⟨t, ht, cap, hg⟩ := ownL_mem.1 hm
  obtain ⟨e, he, rfl⟩ := List.mem_map.1 ht
  obtain ⟨bk, h1, h2⟩ := h.conts e he
  rw [hg] at h1; cases h1
  obtain ⟨cs, ty, fr, h3⟩ := (hM.is e he).is h2
  have h3 : W.heap[k]? = some (Obj.cells cs ty fr) := h3
  rw [hk] at h3; cases h3; cases ho
theorem Sat.rebase (h : Sat c S M a g W) (rd : Option Nat) (mrk : Bool) (om : List Nat) (hm : Marks mrk W.heap.size om a.defers W) : Sat ⟨W, g.J, ownL g M, c.n, rd, mrk, om⟩ S M a g W :=
  ⟨⟨⟨rfl, rfl, rfl, Nat.le_refl _, fun _ _ _ => rfl, Nat.le_refl _⟩, JV.le_refl _, fun _ _ _ => rfl, h.ok.im, fun t b cap ht => ⟨.inr (ownL_mem.2 ⟨t, h.dom t (by rw [ht]; simp), cap, ht⟩), (h.ok.own t b cap ht).2⟩, h.ok.inj⟩,
    h.slots, h.conts, h.dom, h.nodup, h.sdep, h.cdep, hm, h.size⟩
theorem Sat.unbase {c0 : Ctx} {rd : Option Nat} {mrk : Bool} {om : List Nat} (h0 : Sat c0 S M a g W) (h : Sat ⟨W, g.J, ownL g M, c0.n, rd, mrk, om⟩ S' M' a' g' W') (hw : c.w0 = c0.w0) (hJ : c.J0 = c0.J0) (hb : c.bor = c0.bor) (hn : c.n = c0.n)
    (hm : Marks c.mrk c.w0.heap.size c.om a'.defers W') : Sat c S' M' a' g' W' := by
  have hown : ∀ b, b ∈ ownL g M → c0.w0.heap.size ≤ b ∨ b ∈ c0.bor := fun b hb => by
    obtain ⟨t, _, cap, hg⟩ := ownL_mem.1 hb
    exact (h0.ok.own t b cap hg).1
  have b0 := h0.ok.bel
  have b1 := h.ok.bel
  refine ⟨⟨⟨b1.os.trans (hw ▸ b0.os), b1.tape.trans (hw ▸ b0.tape), b1.output.trans (hw ▸ b0.output), Nat.le_trans (hw ▸ b0.size) b1.size, fun k hk hnb => ?_, Nat.le_trans (hw ▸ b0.drawn) b1.drawn⟩, JV.le_trans (hJ ▸ h0.ok.jle) h.ok.jle, fun b o hlt => ?_, h.ok.im, fun t b cap ht => ?_, h.ok.inj⟩, h.slots, h.conts, h.dom, h.nodup, h.sdep, h.cdep, hm, hn ▸ h.size⟩
  · rw [hw] at hk
    rw [hb] at hnb
    have h1 := b1.block k (Nat.lt_of_lt_of_le hk b0.size) (fun hk' => by
      rcases hown k hk' with h2 | h2
      · omega
      · exact hnb h2)
    rw [h1, hw]
    exact b0.block k hk hnb
  · rw [hw] at hlt
    rw [h.ok.jold b o (Nat.lt_of_lt_of_le hlt b0.size), hJ]
    exact h0.ok.jold b o hlt
  · obtain ⟨h1, h2, h3⟩ := h.ok.own t b cap ht
    refine ⟨?_, h2, h3⟩
    rw [hw, hb]
    rcases h1 with h1 | h1
    · exact .inl (Nat.le_trans b0.size h1)
    · exact hown b h1
theorem Sat.turn (h : Sat c S M a g W) (hM : CellsM M) {l : Nat} {o o' : Obj} (hl : W.heap[l]? = some o) (ho : o.isCells = false) (hB : c.w0.heap.size ≤ l) (hmk : Marks c.mrk c.w0.heap.size c.om a.defers (W.putObj l o')) : Sat c S M a g (W.putObj l o') := by
  have hno := h.notOwn hM hl ho
  have hoth : ∀ k, k ≠ l → (W.putObj l o').heap[k]? = W.heap[k]? := fun k hk => World.putObj_heap_other hk
  refine ⟨⟨⟨h.ok.bel.os, h.ok.bel.tape, h.ok.bel.output, by simpa using h.ok.bel.size, fun k hk hnb => ?_, h.ok.bel.drawn⟩, h.ok.jle, h.ok.jold, fun b off v hv => ?_, fun t b cap ht => ?_, h.ok.inj⟩, h.slots, fun e he => ?_, h.dom, h.nodup, h.sdep, h.cdep, hmk, h.size⟩
  · rw [hoth k (by omega)]; exact h.ok.bel.block k hk hnb
  · have h1 := h.ok.im b off v hv
    rw [World.cell?_of_block (w := W) (hoth b (fun e => by
      subst e
      rw [cell_none hl ho] at h1; cases h1))]
    exact h1
  · obtain ⟨h1, h2, h3⟩ := h.ok.own t b cap ht
    exact ⟨h1, by simpa using h2, h3⟩
  · obtain ⟨bk, h1, h2⟩ := h.conts e he
    refine ⟨bk, h1, ?_⟩
    have : World.objAt (W.putObj l o') bk = World.objAt W bk := by
      cases bk with
      | nil => rfl
      | blk b cap => exact hoth b (fun e' => by subst e'; exact hno (ownL_mem.2 ⟨e.t, List.mem_map.2 ⟨e, he, rfl⟩, cap, h1⟩))
    rw [this]; exact h2
end
def BackOk (P : Program) (f : FuncId) {α : Type} [Inhabited α] (e : Enc α) : Prop :=
  ∀ (J : JV) (W : World) (xs : List α) (ptr : Value), Im J W → kPtr (eL e) xs ⟨J, noM⟩ ptr → ∃ val : Nat → Value, (∀ i, i < xs.length → e.val J (val i) (nth xs i)) ∧
    ∀ (l : Nat) (Iv Ix : Nat → World → Prop), (∀ k W1, k < xs.length → Im J W1 → Iv k W1 → YieldAt Fence.wide 2 P l #[.int .i64 ((xs.length - 1 - k : Nat) : Int), val (xs.length - 1 - k)] W1 fun e W' =>
        (e = .returned (.bool true) ∧ Iv (k + 1) W' ∧ Im J W') ∨ (e = .returned (.bool false) ∧ Ix (k + 1) W')) → Iv 0 W →
      Calls P f #[.func (.yield l) #[] #[], ptr] W fun e W' => (∃ v, e = .returned v) ∧ (Iv xs.length W' ∨ ∃ k, k < xs.length ∧ Ix (k + 1) W')
def AsgPost (P : Program) (n l : Nat) (body : Code) (Q : Ctx → Exit → Act → World → Prop) (c : Ctx) (a : Act) (W : World) : Prop :=
  ∃ S M g, Sat c S M a g W ∧ CellsM M ∧ ∀ (w2 : World) (J2 : JV) (b2 : List Nat), Tr P ⟨w2, J2, b2, n, some l, false, []⟩ S M body (Q ⟨w2, J2, b2, n, some l, false, []⟩)
def RndPost (n : Nat) (bks : Nat → Bk) (keep : List Nat) (N : Conts) (R : Prop) (NX : Conts) (RX : Prop) (c : Ctx) : Exit → Act → World → Prop
  | .normal, a, W => R ∧ ∃ g, Sat c (tagSlots n bks keep) N a g W
  | .ret, a, W => RX ∧ ∃ g, Sat c (tagSlots n bks keep) NX a g W
  | _, _, _ => False
section
variable {P : Program} {c : Ctx} {S : Slots} {M N NX : Conts} {n l : Nat} {body : Code} {Q : Ctx → Exit → Act → World → Prop} {bks : Nat → Bk} {keep : List Nat} {R RX : Prop}
theorem End.asg [hM : CellsM M] (h : ∀ (w2 : World) (J2 : JV) (b2 : List Nat), Tr P ⟨w2, J2, b2, n, some l, false, []⟩ S M body (Q ⟨w2, J2, b2, n, some l, false, []⟩)) : End c S M (Exit.then (AsgPost P n l body Q c) (fun _ _ _ => False)) :=
  fun _ g _ hs => ⟨S, M, g, hs, hM, h⟩
theorem End.rnd (hR : R) (h : Ent c S M (tagSlots n bks keep) N) : End c S M (RndPost n bks keep N R NX RX c) := fun a g w hs => ⟨hR, h a g w hs⟩
theorem Rts.rnd (hR : RX) (h : Ent c S M (tagSlots n bks keep) NX) : Rts c S M (RndPost n bks keep N R NX RX c) := fun a g w hs => ⟨hR, h a g w hs⟩
theorem tagSlots_hold {n : Nat} {bks : Nat → Bk} {keep : List Nat} {a : Act} {g : Gh} (h : SlotsHold (tagSlots n bks keep) a g) : ∀ t ∈ keep, g.M t = some (bks t) := by
  intro t ht
  have hl : ∀ (ts : List Nat), t ∈ ts → look (tagSlots n bks ts) (n + t) = some (true, kTag t (bks t)) := by
    intro ts
    induction ts with
    | nil => intro h; cases h
    | cons u ts ih =>
      intro h
      simp only [tagSlots, look]
      cases hb : Nat.beq (n + u) (n + t) with
      | true =>
        have := Nat.eq_of_beq_eq_true hb
        have : u = t := by omega
        subst this; rfl
      | false =>
        rcases List.mem_cons.1 h with rfl | h
        · rw [Nat.beq_refl] at hb; cases hb
        · exact ih h
  exact (h _ _ _ (hl keep ht)).1 rfl
end
section
variable {P : Program} {w0 : World} {J0 : JV} {bor om : List Nat} {n : Nat} {S S0 : Slots} {M : Conts} {Q : Exit → Act → World → Prop}
theorem Tr.back {f : FuncId} [hf : TyFn P f] {α : Type} [Inhabited α] {e : Enc α} {xs : List α} {s p1 p2 : Nat} {assign body : Code} (hback : BackOk P f e) (S0 : Slots) (keep : List Nat) (N NX : Nat → Conts) (R RX : Nat → Prop)
    (he : Ent ⟨w0, J0, bor, n, none, true, om⟩ S M S0 (N 0)) (hx : look S0 s = some (true, kClo f [kPtr (eL e) xs])) (hkeep : S0.all (fun e => subT e.dep keep) = true) (hkt : ∀ k, subT keep (tags (N k)) = true) (hkx : ∀ k, subT keep (tags (NX k)) = true)
    (hN : ∀ k, CellsM (N k)) (hNX : ∀ k, CellsM (NX k)) (hp : (Nat.blt p1 n && Nat.blt p2 n && !Nat.beq p1 p2) = true) (h0 : R 0) {kE : Nat → Know} [hE : ∀ i, Norm e (nth xs i) (kE i)] [hEd : ∀ i, KDep (kE i) []]
    (round : ∀ k, k < xs.length → R k → ∀ (l : Nat) (w1 : World) (J1 : JV) (b1 : List Nat) (bks : Nat → Bk),
      Tr P ⟨w1, J1, b1, n, some l, false, []⟩ (⟨p2, true, [], kE (xs.length - 1 - k)⟩ :: ⟨p1, true, [], kI ((xs.length - 1 - k : Nat) : Int)⟩ :: (S0 ++ tagSlots n bks keep)) (N k) assign
        (Exit.then (AsgPost P n l body (RndPost n bks keep (N (k + 1)) (R (k + 1)) (NX (k + 1)) (RX (k + 1))) ⟨w1, J1, b1, n, some l, false, []⟩) (fun _ _ _ => False)))
    (done : R xs.length → End ⟨w0, J0, bor, n, none, true, om⟩ S0 (N xs.length) Q) (ret : ∀ k, k < xs.length → RX (k + 1) → Rts ⟨w0, J0, bor, n, none, true, om⟩ S0 (NX (k + 1)) Q) :
    Tr P ⟨w0, J0, bor, n, none, true, om⟩ S M (.rangeFunc (.tmp s) #[p1, p2] assign body) Q := by
  intro a g00 w hs00
  obtain ⟨g, hs0⟩ := he a g00 w hs00
  simp only [Bool.and_eq_true, Bool.not_eq_true'] at hp
  obtain ⟨⟨hp1, hp2⟩, hp12⟩ := hp
  have hp1 : p1 < n := by simpa [Nat.blt_eq] using hp1
  have hp2 : p2 < n := by simpa [Nat.blt_eq] using hp2
  have hp12 : p1 ≠ p2 := Nat.ne_of_beq_eq_false hp12
  obtain ⟨cvs, hfv, hcl⟩ := (hs0.slots s _ _ hx).1 rfl
  obtain ⟨ptr, rfl, hptr⟩ : ∃ ptr, cvs = [ptr] ∧ kPtr (eL e) xs g ptr := by
    match cvs, hcl with
    | [ptr], h => exact ⟨ptr, rfl, h.1⟩
  have hn := hs0.size
  simp only at hn
  have hkm : ∀ t ∈ keep, ∃ bk, g.M t = some bk := fun t ht => hs0.tagM (subT_spec (hkt 0) t ht)
  refine wpIn_rangeFunc fun fn _ => ?_
  obtain ⟨rec, hrec⟩ : ∃ rec : LoopState → Option Code → Loop, rec = fun st pe => { state := st, pending := pe, fn, tmps := a.tmps, params := #[p1, p2], assign, body, defers := w.heap.size } := ⟨_, rfl⟩
  obtain ⟨D, hD⟩ : ∃ D, D = w.heap.size := ⟨_, rfl⟩
  obtain ⟨W1, hW1⟩ : ∃ W1, (w.alloc (.deferred (some []))).alloc (.loop (rec .ready none)) = W1 := ⟨_, rfl⟩
  have hL1 : W1.heap[D + 1]? = some (.loop (rec .ready none)) := by
    rw [← hW1, hD]; have := World.alloc_heap_new (w.alloc (.deferred (some []))) (.loop (rec .ready none)); rwa [World.size_alloc] at this
  have hD1 : W1.heap[D]? = some (Obj.deferred (some [])) := by
    rw [← hW1, hD]; exact (Below.heap_alloc _ _ _ (by simp)).trans (World.alloc_heap_new w _)
  have hbel : Below w.heap.size w W1 := by rw [← hW1]; exact ((Below.refl _ w).alloc (Nat.le_refl _) _).alloc (by simp) _
  have hB : w0.heap.size ≤ D := by rw [hD]; exact hs0.ok.bel.size
  have hs1 : Sat ⟨w0, J0, bor, n, none, true, om⟩ S0 (N 0) a g W1 := by
    have hob : ∀ bk, (∀ b cap, bk = Bk.blk b cap → b < w.heap.size) → World.objAt W1 bk = World.objAt w bk := fun bk hb => objAt_below hbel hb
    refine ⟨⟨hs0.ok.bel.then hbel, hs0.ok.jle, hs0.ok.jold, fun b o v hv => ?_, fun t b cap ht => ?_, hs0.ok.inj⟩, hs0.slots, fun x hx => ?_, hs0.dom, hs0.nodup, hs0.sdep, hs0.cdep, hs0.defers.below hbel, hs0.size⟩
    · have h1 := hs0.ok.im b o v hv
      rw [World.cell?_of_block (w := w) (hbel.block b (World.block_lt_of_cell? _ _ h1))]; exact h1
    · obtain ⟨q1, q2, q3⟩ := hs0.ok.own t b cap ht
      exact ⟨q1, Nat.lt_of_lt_of_le q2 hbel.size, q3⟩
    · obtain ⟨bk, q1, q2⟩ := hs0.conts x hx
      exact ⟨bk, q1, by rw [hob bk (fun b cap e => by subst e; exact (hs0.ok.own _ _ _ q1).2.1)]; exact q2⟩
  have him1 : Im g.J W1 := hs1.ok.im
  obtain ⟨val, hval, hcall⟩ := hback g.J W1 xs ptr him1 (by obtain ⟨b, o, ds, q⟩ := hptr; exact ⟨b, o, ds, q⟩)
  let St (Nk : Conts) (W : World) : Prop := ∃ g' : Gh, g.J.le g'.J ∧ (∀ t ∈ keep, g'.M t = g.M t) ∧ Sat ⟨w0, J0, bor, n, none, true, om⟩ S0 Nk a g' W
  have hfin : Calls P f #[.func (.yield (D + 1)) #[] #[], ptr] W1 fun e W' => (∃ v, e = .returned v) ∧
      (((R xs.length ∧ St (N xs.length) W') ∧ W'.heap[D + 1]? = some (.loop (rec .ready none)) ∧ W'.heap[D]? = some (Obj.deferred (some []))) ∨
       ∃ k, k < xs.length ∧ (RX (k + 1) ∧ St (NX (k + 1)) W') ∧ W'.heap[D + 1]? = some (.loop (rec .done (some .ret))) ∧ W'.heap[D]? = some (Obj.deferred (some []))) := by
    refine hcall (D + 1) (fun k W => (R k ∧ St (N k) W) ∧ W.heap[D + 1]? = some (.loop (rec .ready none)) ∧ W.heap[D]? = some (Obj.deferred (some [])))
      (fun k W => (RX k ∧ St (NX k) W) ∧ W.heap[D + 1]? = some (.loop (rec .done (some .ret))) ∧ W.heap[D]? = some (Obj.deferred (some []))) ?_ ⟨⟨h0, g, JV.le_refl _, fun _ _ => rfl, hs1⟩, hL1, hD1⟩
    rintro k W hk _ ⟨⟨hR, g', hJ', hM', hsW⟩, hLW, hDW⟩
    have hy := run_yield (P := P) (args := #[.int .i64 ((xs.length - 1 - k : Nat) : Int), val (xs.length - 1 - k)]) hLW (by rw [hrec]; rfl)
    rw [hrec] at hy
    refine ⟨fn, _, assign, body, hy, roundIn_of_wpIn trivial ?_⟩
    obtain ⟨a1, ha1⟩ : ∃ a1 : Act, a1 = { tmps := (a.tmps.setIfInBounds p1 (.int .i64 ((xs.length - 1 - k : Nat) : Int))).setIfInBounds p2 (val (xs.length - 1 - k)), defers := [] } := ⟨_, rfl⟩
    have hfold : ({ tmps := ((#[p1, p2] : Array Tmp).zip #[.int .i64 ((xs.length - 1 - k : Nat) : Int), val (xs.length - 1 - k)]).foldl (fun t (p, v) => t.setIfInBounds p v) a.tmps, defers := [] } : Act) = a1 := by
      rw [ha1]; simp
    have hbks : ∀ t ∈ keep, g'.M t = some ((g.M t).getD .nil) := fun t ht => by
      obtain ⟨bk, q⟩ := hkm t ht
      rw [hM' t ht, q]; rfl
    have hsr : Sat ⟨w0, J0, bor, n, some (D + 1), false, []⟩ (⟨p2, true, [], kE (xs.length - 1 - k)⟩ :: ⟨p1, true, [], kI ((xs.length - 1 - k : Nat) : Int)⟩ :: (S0 ++ tagSlots n (fun t => (g.M t).getD .nil) keep)) (N k) a1 g' W := by
      have hv := hval (xs.length - 1 - k) (by omega)
      have hoth : ∀ t, t ≠ p1 → t ≠ p2 → a1.tmps.getD t undef = a.tmps.getD t undef := fun t h1 h2 => by
        rw [ha1]; simp [Array.getElem?_setIfInBounds_ne (Ne.symm h1), Array.getElem?_setIfInBounds_ne (Ne.symm h2)]
      refine ⟨⟨hsW.ok.bel, hsW.ok.jle, hsW.ok.jold, hsW.ok.im, hsW.ok.own, hsW.ok.inj⟩, fun t b k0 hl => ?_, hsW.conts, hsW.dom, hsW.nodup, fun x hx => ?_, hsW.cdep, ⟨by rw [ha1], fun _ h => by cases h⟩, by rw [ha1]; simpa using hn⟩
      · simp only [look] at hl
        cases hb2 : Nat.beq p2 t with
        | true =>
          rw [hb2] at hl
          simp only [cond_true, Option.some.injEq, Prod.mk.injEq] at hl
          obtain ⟨rfl, rfl⟩ := hl
          rw [← Nat.eq_of_beq_eq_true hb2]
          refine ⟨fun _ => ?_, fun h => by cases h⟩
          rw [show a1.tmps.getD p2 undef = val (xs.length - 1 - k) by rw [ha1]; simp [hn, hp2]]
          exact (hE _).imp (hv.mono hJ')
        | false =>
          rw [hb2] at hl
          simp only [cond_false] at hl
          cases hb1 : Nat.beq p1 t with
          | true =>
            rw [hb1] at hl
            simp only [cond_true, Option.some.injEq, Prod.mk.injEq] at hl
            obtain ⟨rfl, rfl⟩ := hl
            rw [← Nat.eq_of_beq_eq_true hb1]
            refine ⟨fun _ => ?_, fun h => by cases h⟩
            show a1.tmps.getD p1 undef = _
            rw [ha1]
            simp only [Array.getD_eq_getD_getElem?]
            rw [Array.getElem?_setIfInBounds_ne (Ne.symm hp12), Array.getElem?_setIfInBounds_self_of_lt (by omega)]
            rfl
          | false =>
            rw [hb1] at hl
            simp only [cond_false] at hl
            rcases look_app hl with hl | hl
            · rw [hoth t (fun e => Nat.ne_of_beq_eq_false hb1 e.symm) (fun e => Nat.ne_of_beq_eq_false hb2 e.symm)]
              exact hsW.slots t b k0 hl
            · obtain ⟨rfl, _, h3, rfl⟩ := tagSlots_look hl
              exact ⟨fun _ => hbks _ h3, fun hf => (by cases hf)⟩
      · rcases List.mem_cons.1 hx with rfl | hx
        · exact ⟨hEd _, fun _ h => by cases h⟩
        rcases List.mem_cons.1 hx with rfl | hx
        · exact ⟨inferInstance, fun _ h => by cases h⟩
        rcases List.mem_append.1 hx with hx | hx
        · exact hsW.sdep x hx
        · obtain ⟨t, h1, h2, h3⟩ := tagSlots_mem hx
          rw [h2, h3]
          exact ⟨inferInstance, fun q hq => by simp at hq; subst hq; exact subT_spec (hkt k) _ h1⟩
    have hNk := hN k
    have nW : ∀ {q : Nat} {o : Obj}, W.heap[q]? = some o → o.isCells = false → q ∉ ownL g' (N k) := fun h1 h2 => hsW.notOwn hNk h1 h2
    have hr1 := hsr.rebase (some (D + 1)) false [] ⟨by rw [ha1], fun _ h => by cases h⟩
    refine wpIn_mono (by
      have := round k hk hR (D + 1) W g'.J (ownL g' (N k)) (fun t => (g.M t).getD .nil) a1 g' W hr1
      rw [← hfold] at this
      exact this) ?_
    rintro e2 a2 W2 hq
    cases e2 with
    | normal =>
      obtain ⟨S1, M1, g1, hs2, hM1, hbody⟩ := hq
      have keep2 : ∀ {q : Nat} {o : Obj}, W.heap[q]? = some o → o.isCells = false → W2.heap[q]? = some o := fun h1 h2 =>
        (hs2.ok.bel.block _ (Array.getElem?_eq_some_iff.1 h1).1 (nW h1 h2)).trans h1
      have hL2 := keep2 hLW rfl
      have hD2 := keep2 hDW rfl
      have hs2' : Sat ⟨w0, J0, bor, n, some (D + 1), false, []⟩ S1 M1 a2 g1 W2 := hsr.unbase hs2 rfl rfl rfl rfl ⟨hs2.defers.1, fun _ h => by cases h⟩
      obtain ⟨busy, hbusy⟩ : ∃ busy : Obj, busy = .loop { rec .ready none with state := .busy } := ⟨_, rfl⟩
      refine ⟨W2.putObj (D + 1) busy, by rw [hbusy]; exact run_beginRound hL2 (by rw [hrec]), ?_⟩
      have hs3 := hs2'.turn (o' := busy) hM1 hL2 rfl (Nat.le_trans hB (Nat.le_succ _)) ⟨hs2.defers.1, fun _ h => by cases h⟩
      have hL3 : (W2.putObj (D + 1) busy).heap[D + 1]? = some busy := World.putObj_heap_same (Array.getElem?_eq_some_iff.1 hL2).1
      have hoth3 : ∀ q, q ≠ D + 1 → (W2.putObj (D + 1) busy).heap[q]? = W2.heap[q]? := fun q hq => World.putObj_heap_other hq
      have hD3 : (W2.putObj (D + 1) busy).heap[D]? = some (Obj.deferred (some [])) := (hoth3 D (by omega)).trans hD2
      generalize hW3 : W2.putObj (D + 1) busy = W3 at hs3 hL3 hoth3 hD3 ⊢
      have nW3 : ∀ {q : Nat} {o : Obj}, W3.heap[q]? = some o → o.isCells = false → q ∉ ownL g1 M1 := fun h1 h2 => hs3.notOwn hM1 h1 h2
      have hr3 := hs3.rebase (some (D + 1)) false [] ⟨hs2.defers.1, fun _ h => by cases h⟩
      refine wpIn_mono (hbody W3 g1.J (ownL g1 M1) a2 g1 W3 hr3) ?_
      have fin : ∀ (jump : Option Code) (N' : Conts) (a4 : Act) (g4 : Gh) (W4 : World), CellsM N' → subT keep (tags N') = true → Sat ⟨W3, g1.J, ownL g1 M1, n, some (D + 1), false, []⟩ (tagSlots n (fun t => (g.M t).getD .nil) keep) N' a4 g4 W4 →
          ∃ W5, (Instr.endRound (D + 1) jump).run P W4 = .ok (.bool jump.isNone) W5 ∧ St N' W5 ∧ Im g.J W5 ∧ W5.heap[D + 1]? = some (.loop (rec (if jump.isNone then .ready else .done) jump)) ∧ W5.heap[D]? = some (Obj.deferred (some [])) := by
        intro jump N' a4 g4 W4 hN' hkN hs4
        have keep4 : ∀ {q : Nat} {o : Obj}, W3.heap[q]? = some o → o.isCells = false → W4.heap[q]? = some o := fun h1 h2 =>
          (hs4.ok.bel.block _ (Array.getElem?_eq_some_iff.1 h1).1 (nW3 h1 h2)).trans h1
        have hL4 := keep4 hL3 (by rw [hbusy]; rfl)
        have hD4 := keep4 hD3 rfl
        have hs4' : Sat ⟨w0, J0, bor, n, some (D + 1), false, []⟩ (tagSlots n (fun t => (g.M t).getD .nil) keep) N' a4 g4 W4 := hs3.unbase hs4 rfl rfl rfl rfl ⟨hs4.defers.1, fun _ h => by cases h⟩
        have hJ4 : g'.J.le g4.J := JV.le_trans hs2.ok.jle hs4.ok.jle
        have hM4 : ∀ t ∈ keep, g4.M t = g.M t := fun t ht => by
          obtain ⟨bk, q⟩ := hkm t ht
          rw [tagSlots_hold hs4.slots t ht, q]; rfl
        have hmk : ∀ (o' : Obj), Marks true w0.heap.size om a.defers (W4.putObj (D + 1) o') := fun o' => by
          refine hsW.defers.on fun q hq => ?_
          have hne : q ≠ D + 1 := fun e => by subst e; rw [hLW] at hq; cases hq
          rw [World.putObj_heap_other hne]
          have h3 : W3.heap[q]? = some (Obj.deferred (some [])) := (hoth3 q hne).trans (keep2 hq rfl)
          exact (keep4 h3 rfl).trans hq.symm
        have hmk4 : Marks true w0.heap.size om a.defers W4 := by
          refine hsW.defers.on fun q hq => ?_
          have hne : q ≠ D + 1 := fun e => by subst e; rw [hLW] at hq; cases hq
          have h3 : W3.heap[q]? = some (Obj.deferred (some [])) := (hoth3 q hne).trans (keep2 hq rfl)
          exact (keep4 h3 rfl).trans hq.symm
        have hsO : Sat ⟨w0, J0, bor, n, none, true, om⟩ S0 N' a g4 W4 := by
          refine ⟨⟨hs4'.ok.bel, hs4'.ok.jle, hs4'.ok.jold, hs4'.ok.im, hs4'.ok.own, hs4'.ok.inj⟩, fun t b k0 hl => ?_, hs4'.conts, hs4'.dom, hs4'.nodup, fun x hx => ⟨(hsW.sdep x hx).1, fun t ht => subT_spec hkN t (subT_spec (List.all_eq_true.1 hkeep x hx) t ht)⟩, hs4'.cdep, hmk4, hn⟩
          obtain ⟨x, hx, _, _, rfl⟩ := look_mem hl
          obtain ⟨q1, q2⟩ := hsW.slots t b _ hl
          exact ⟨fun hb => (hsW.sdep x hx).1.dep (g := g') hJ4 (fun u hu => by rw [hM4 u (subT_spec (List.all_eq_true.1 hkeep x hx) u hu), hM' u (subT_spec (List.all_eq_true.1 hkeep x hx) u hu)]) (q1 hb), q2⟩
        rw [hbusy] at hL4
        have hsT := hsO.turn (o' := .loop (rec (if jump.isNone then .ready else .done) jump)) hN' hL4 rfl (Nat.le_trans hB (Nat.le_succ _)) (hmk _)
        have hrun := run_endRound (P := P) jump hL4
        refine ⟨_, ?_, ⟨g4, JV.le_trans hJ' hJ4, hM4, hsT⟩, fun b o v hv => hsT.ok.im b o v (JV.le_trans hJ' hJ4 b o v hv), World.putObj_heap_same (Array.getElem?_eq_some_iff.1 hL4).1, (World.putObj_heap_other (by omega)).trans hD4⟩
        rw [hrun, hrec]
      rintro e4 a4 W4 hp
      cases e4 with
      | normal =>
        obtain ⟨hR', g4, hs4⟩ := hp
        obtain ⟨W5, q1, q2, q3, q4, q5⟩ := fin none _ a4 g4 W4 (hN _) (hkt _) hs4
        exact ⟨_, W5, q1, .inl ⟨rfl, ⟨⟨hR', q2⟩, q4, q5⟩, q3⟩⟩
      | ret =>
        obtain ⟨hR', g4, hs4⟩ := hp
        obtain ⟨W5, q1, q2, _, q4, q5⟩ := fin (some .ret) _ a4 g4 W4 (hNX _) (hkx _) hs4
        exact ⟨_, W5, q1, .inr ⟨rfl, ⟨hR', q2⟩, q4, q5⟩⟩
      | exit id => exact hp.elim
      | goto t => exact hp.elim
      | panic ch => exact hp.elim
      | outgrown => exact hp.elim
    | exit id => exact hq.elim
    | goto t => exact hq.elim
    | ret => exact hq.elim
    | panic ch => exact hq.elim
    | outgrown => exact hq.elim
  have hout : ∀ (Nk : Conts) (W : World) (o : Loop) (o' : Obj), CellsM Nk → St Nk W → W.heap[D + 1]? = some (.loop o) → W.heap[D]? = some (Obj.deferred (some [])) →
      ∃ g', Sat ⟨w0, J0, bor, n, none, true, om⟩ S0 Nk { a with defers := [{ target := .collected D, args := #[] }] ++ a.defers } g' (W.putObj (D + 1) o') := by
    rintro Nk W o o' hc ⟨g', _, _, hsW⟩ hl hd
    have hk : ∀ q, W.heap[q]? = some (Obj.deferred (some [])) → (W.putObj (D + 1) o').heap[q]? = W.heap[q]? := fun q hq => World.putObj_heap_other (fun e => by subst e; rw [hl] at hq; cases hq)
    have hm := hsW.defers.on hk
    have hs := hsW.turn (o' := o') hc hl rfl (Nat.le_trans hB (Nat.le_succ _)) hm
    refine ⟨g', hs.ok, hs.slots, hs.conts, hs.dom, hs.nodup, hs.sdep, hs.cdep, ⟨⟨List.nodup_cons.2 ⟨fun hmem => ?_, hm.1.1⟩, fun d hd' => ?_⟩, hm.2⟩, hs.size⟩
    · obtain ⟨D', q1, _, q3⟩ := hs0.defers.1.2 _ hmem
      simp only [Deferred.mk.injEq, Target.collected.injEq, and_true] at q1
      rw [← q1, hD] at q3
      have := (Array.getElem?_eq_some_iff.1 q3).1
      omega
    · rcases List.mem_cons.1 hd' with rfl | hd'
      · exact ⟨D, rfl, hB, (hk D hd).trans hd⟩
      · exact hm.1.2 d hd'
  refine ⟨D + 1, [{ target := .collected D, args := #[] }], W1, { target := .fn (.func f) #[ptr], args := #[.func (.yield (D + 1)) #[] #[]] }, W1, f, #[.func (.yield (D + 1)) #[] #[], ptr], W1, ?_, ?_, fun _ _ => trivial, ?_, fun _ => by omega, ?_⟩
  · rw [← hW1, hrec, hD]; exact run_enterLoop_outer _ _ _ _ _
  · have hev : a.eval (.tmp s) = .func (.func f) #[] #[ptr] := hfv
    simp only [resolve, hev]
    simp [go_sem]
  · simp only [invoke]
    exact hf.run _ _
  · refine callsIn_wide.2 (hfin.mono ?_)
    rintro e W2 ⟨⟨v, rfl⟩, h⟩
    rcases h with ⟨⟨hR, hst⟩, hl, hd⟩ | ⟨k, hk, ⟨hR, hst⟩, hl, hd⟩
    · obtain ⟨g', hs⟩ := hout _ W2 _ (.loop { rec .ready none with state := .exhausted }) (hN _) hst hl hd
      exact ⟨none, _, by have := run_endLoop (P := P) hl (by rw [hrec]; simp); rw [hrec] at this ⊢; exact this, done hR _ g' _ hs⟩
    · obtain ⟨g', hs⟩ := hout _ W2 _ (.loop { rec .done (some .ret) with state := .exhausted }) (hNX _) hst hl hd
      exact ⟨some .ret, _, by have := run_endLoop (P := P) hl (by rw [hrec]; simp); rw [hrec] at this ⊢; exact this, wpIn_ret (ret k hk hR _ g' _ hs)⟩
end
end Go.Fl

/- Functions that hold a loop over a function: their contracts. No program in sight. -/
namespace Go.Fl
open Go Go.RowKit
abbrev BodyP (P : Program) (fn : Func) (R : Ending → World → Prop) : Exit → Act → World → Prop := bodyPostM Fence.wide 2 P fn R
theorem CtM.mk {P : Program} {f : FuncId} {fn : Func} {code : Code} {args : List Know} {res : Know} {n : Nat} (hf : P.funcs[f]? = some fn) (hb : fn.body = some code) (hn : fn.ntmps = n) (hl : Nat.ble args.length n = true) [hj : AllJ args]
    (h : ∀ w J, Tr P ⟨w, J, [], n, none, true, []⟩ (params 0 args) [] code (BodyP P fn (RetR w J res))) : Ct P f args res := by
  intro w J him vs hvs
  have hlen := allK_len hvs
  have hle : args.length ≤ n := Nat.le_of_ble_eq_true hl
  refine callsIn_wide.1 (callsIn_of_wp_marks (n := 2) hf hb trivial (h w J _ ⟨J, noM⟩ w ⟨⟨⟨rfl, rfl, rfl, Nat.le_refl _, fun _ _ _ => rfl, Nat.le_refl _⟩, JV.le_refl _, fun _ _ _ => rfl, him, fun _ _ _ h => (by cases h), fun _ _ _ _ _ h => (by cases h)⟩, ?_, fun _ h => (by cases h), fun _ h => absurd rfl h, List.nodup_nil, ?_, fun _ h => (by cases h), ⟨⟨List.nodup_nil, fun _ h => (by cases h)⟩, fun _ h => (by cases h)⟩, ?_⟩))
  · intro t b k hk
    obtain ⟨_, rfl, v, hv, hkv⟩ := params_hold hvs hk
    refine ⟨fun _ => ?_, fun hf => (by cases hf)⟩
    have ht : t < vs.length := (List.getElem?_eq_some_iff.1 (by simpa using hv)).1
    have : (vs.toArray ++ Array.replicate (fn.ntmps - vs.toArray.size) undef).getD t undef = v := by
      rw [Array.getD_eq_getD_getElem?, Array.getElem?_append_left (by simpa using ht)]
      simp only [List.getElem?_toArray]
      rw [show vs[t]? = some v by simpa using hv]
      rfl
    rw [this]; exact hkv
  · intro e he
    obtain ⟨h1, h2⟩ := params_dep hj.all he
    exact ⟨h1, fun t ht => by rw [h2] at ht; cases ht⟩
  · simp only [Array.size_append, List.size_toArray, Array.size_replicate]; omega
theorem Rts.mk {P : Program} {w0 : World} {J0 : JV} {bor : List Nat} {n : Nat} {S : Slots} {M : Conts} {fn : Func} {R : Ending → World → Prop} [hM : CellsM M] (h : Rts ⟨w0, J0, bor, n, none, false, []⟩ S M (bodyPost P fn R)) : Rts ⟨w0, J0, bor, n, none, true, []⟩ S M (BodyP P fn R) := by
  have key : ∀ (ds : List Deferred) (a : Act) (g : Gh) (w : World), a.defers = ds → Sat ⟨w0, J0, bor, n, none, true, []⟩ S M a g w → LeavesInM Fence.wide 2 P fn a.tmps R ds .returning w := by
    intro ds
    induction ds with
    | nil =>
      intro a g w hd hs
      have h1 := h a g w ⟨⟨hs.ok.bel, hs.ok.jle, hs.ok.jold, hs.ok.im, hs.ok.own, hs.ok.inj⟩, hs.slots, hs.conts, hs.dom, hs.nodup, hs.sdep, hs.cdep, ⟨hd, hs.defers.2⟩, hs.size⟩
      exact h1.2
    | cons d ds ih =>
      intro a g w hd hs
      have hdf := hs.defers
      rw [hd] at hdf
      obtain ⟨D, h1, h2, h3⟩ := hdf.1.2 d List.mem_cons_self
      have hnd := List.nodup_cons.1 hdf.1.1
      refine ⟨by simp, .inl ⟨D, w.putObj D (.deferred none), by rw [h1], run_takeDeferred h3, ?_⟩⟩
      have hoth : ∀ q, q ≠ D → (w.putObj D (.deferred none)).heap[q]? = w.heap[q]? := fun q hq => World.putObj_heap_other hq
      have hs' : Sat ⟨w0, J0, bor, n, none, false, []⟩ S M { a with defers := [] } g w := ⟨⟨hs.ok.bel, hs.ok.jle, hs.ok.jold, hs.ok.im, hs.ok.own, hs.ok.inj⟩, hs.slots, hs.conts, hs.dom, hs.nodup, hs.sdep, hs.cdep, ⟨rfl, fun _ h => by cases h⟩, hs.size⟩
      have ht := hs'.turn (o' := .deferred none) hM h3 rfl h2 ⟨rfl, fun _ h => by cases h⟩
      refine ih { a with defers := ds } g _ rfl ⟨⟨ht.ok.bel, ht.ok.jle, ht.ok.jold, ht.ok.im, ht.ok.own, ht.ok.inj⟩, ht.slots, ht.conts, ht.dom, ht.nodup, ht.sdep, ht.cdep, ⟨⟨hnd.2, fun d' hd' => ?_⟩, fun _ h => by cases h⟩, ht.size⟩
      · obtain ⟨D', q1, q2, q3⟩ := hdf.1.2 d' (List.mem_cons_of_mem _ hd')
        exact ⟨D', q1, q2, (hoth D' (fun e => by subst e; exact hnd.1 (by rw [h1, ← q1]; exact hd'))).trans q3⟩
  exact fun a g w hs => key a.defers a g w rfl hs
end Go.Fl

/- Arrays that are immutable, as lists of one length: elements at any place, slices. No program in sight. -/
namespace Go.Fl
open Go Go.RowKit
def rdA {α : Type} (e : Enc α) (J : JV) : List Value → List α → Prop
  | cs, [] => cs = []
  | cs, x :: xs => ∃ c1 c2, cs = c1 ++ c2 ∧ e.rd J c1 x ∧ rdA e J c2 xs
theorem rdA_len {α : Type} {e : Enc α} {J : JV} : ∀ {xs : List α} {cs : List Value}, rdA e J cs xs → cs.length = xs.length * e.n
  | [], _, h => by have h : _ = [] := h; subst h; simp
  | _ :: xs, _, ⟨c1, c2, h, h1, h2⟩ => by subst h; rw [List.length_append, e.len h1, rdA_len h2, List.length_cons, Nat.succ_mul]; omega
theorem rdA_mono {α : Type} {e : Enc α} {J J' : JV} (hl : J.le J') : ∀ {xs : List α} {cs : List Value}, rdA e J cs xs → rdA e J' cs xs
  | [], _, h => h
  | _ :: _, _, ⟨c1, c2, h, h1, h2⟩ => ⟨c1, c2, h, e.mono hl h1, rdA_mono hl h2⟩
theorem rdA_all1 {α : Type} {e : Enc α} {J : JV} : ∀ {xs : List α} {cs : List Value}, rdA e J cs xs → ∀ v ∈ cs, v.oneCell' = true
  | [], _, h, v, hv => by have h : _ = [] := h; subst h; cases hv
  | _ :: _, _, ⟨c1, c2, h, h1, h2⟩, v, hv => by
    subst h
    rcases List.mem_append.1 hv with hv | hv
    · exact e.all1 h1 v hv
    · exact rdA_all1 h2 v hv
theorem rdA_at {α : Type} {e : Enc α} {J : JV} : ∀ {xs : List α} {cs : List Value}, rdA e J cs xs → ∀ {i : Nat} {x : α}, xs[i]? = some x → ∃ ds, e.rd J ds x ∧ ∀ j v, ds[j]? = some v → cs[i * e.n + j]? = some v
  | [], _, _, _, _, hx => by simp at hx
  | y :: xs, _, ⟨c1, c2, h, h1, h2⟩, 0, x, hx => by
    subst h
    simp only [List.getElem?_cons_zero, Option.some.injEq] at hx
    subst hx
    exact ⟨c1, h1, fun j v hj => by rw [Nat.zero_mul, Nat.zero_add, List.getElem?_append_left (List.getElem?_eq_some_iff.1 hj).1]; exact hj⟩
  | y :: xs, _, ⟨c1, c2, h, h1, h2⟩, i + 1, x, hx => by
    subst h
    obtain ⟨ds, q1, q2⟩ := rdA_at h2 (i := i) (by simpa using hx)
    refine ⟨ds, q1, fun j v hj => ?_⟩
    rw [Nat.succ_mul, List.getElem?_append_right (by rw [e.len h1]; omega), e.len h1, show i * e.n + e.n + j - e.n = i * e.n + j by omega]
    exact q2 j v hj
def eArr {α : Type} (k : Nat) (e : Enc α) : Enc (List α) where
  n := k * e.n
  agg := true
  rd J cs xs := xs.length = k ∧ rdA e J cs xs
  len h := by rw [rdA_len h.2, h.1]
  one h := by cases h
  all1 h := rdA_all1 h.2
  mono hl h := ⟨h.1, rdA_mono hl h.2⟩
instance {α : Type} {k : Nat} {e : Enc α} {x : List α} : Norm (eArr k e) x (kRd (eArr k e) x) := ⟨fun h => h⟩
section
variable {P : Program} {c : Ctx} {S : Slots} {M : Conts} {p : Bool} {d : Option Tmp} {ty : TypeId} {pos : String} {af : Array Edge} {gd : Option (Nat × Bool)} {x y : Operand} {b b' : Bool}
theorem sl_arr {t et : TypeId} {n : Nat} [ht : TyArr P t n et] {sz by' : Nat} {zz : Value} [hz : TySz P et sz by' zz] {α : Type} {e : Enc α} {xs : List α} {g : Gh} {v : Value} {w : World} (hv : kPtr (eArr n e) xs g v) (hs : sz = e.n) (hlm : n ≤ lenMax) {lo hi : Option Value} {l h : Nat} (hlh : l ≤ h) (hn : h ≤ n)
    (hlo : (lo = none ∧ l = 0) ∨ ∃ ik, lo = some (.int ik (l : Int))) (hhi : (hi = none ∧ h = n) ∨ ∃ ik, hi = some (.int ik (h : Int))) : ∃ u, (Instr.sliceAt t v lo hi none).run P w = .ok u w ∧ kRd (eL e) ((xs.take h).drop l) g u := by
  obtain ⟨bl, o, ds, rfl, ⟨h2, h3⟩, h4⟩ := hv
  obtain ⟨ti, hti, rfl, _, _⟩ := hz.h
  have hlen : ((xs.take h).drop l).length = h - l := by rw [List.length_drop, List.length_take]; omega
  have hb : (Instr.sliceBounds false n n lo hi none).run P w = .ok (l, h, n) w := by
    rcases hlo with ⟨rfl, rfl⟩ | ⟨ik, rfl⟩ <;> rcases hhi with ⟨rfl, rfl⟩ | ⟨ik', rfl⟩
    · simp [Instr.sliceBounds]
    · simp [Instr.sliceBounds, Instr.sliceBound, asIntOf]; omega
    · simp [Instr.sliceBounds, Instr.sliceBound, asIntOf]; omega
    · simp [Instr.sliceBounds, Instr.sliceBound, asIntOf]
      rw [if_pos (by omega)]
      simp
      omega
  refine ⟨.slice (some (if n = l then ⟨bl, o, none⟩ else (⟨bl, o, none⟩ : Addr).add (l * ti.size))) (h - l) (n - l), ?_, ?_⟩
  · unfold Instr.sliceAt
    simp only [Sem.run_bind, run_underlying ht.h, Result.andThen_ok, Instr.sureAddr, Sem.run_pure, hb]
    simp [sizeOf, typeInfo, hti]
  · refine ⟨[.slice (some (if n = l then ⟨bl, o, none⟩ else (⟨bl, o, none⟩ : Addr).add (l * ti.size))) (h - l) (n - l)], ⟨_, _, by rw [hlen], ⟨by rw [hlen]; omega, by rw [hlen]; omega⟩, ?_⟩, rfl⟩
    by_cases hnl : n = l
    · left
      exact List.eq_nil_of_length_eq_zero (by rw [hlen]; omega)
    · right
      refine ⟨bl, o + l * ti.size, by rw [if_neg hnl]; simp [Addr.add_lit], fun i x hx => ?_⟩
      rw [List.getElem?_drop, List.getElem?_take] at hx
      split at hx
      · obtain ⟨es, q1, q2⟩ := rdA_at h3 hx
        refine ⟨es, q1, fun j v hj => ?_⟩
        have := h4 _ _ (q2 j v hj)
        rwa [hs, show o + l * e.n + i * e.n + j = o + ((l + i) * e.n + j) by rw [Nat.add_mul]; omega]
      · cases hx
theorem ok_slArrPh {t et : TypeId} {n : Nat} [ht : TyArr P t n et] {sz by' : Nat} {zz : Value} [hz : TySz P et sz by' zz] {α : Type} {e : Enc α} {xs : List α} {ik : IntKind} {i0 : Int} (hx : opK S x = some (b, kPtr (eArr n e) xs)) (hb : p = true → b = true) (hy : opK S y = some (b', kInt ik i0)) (hb' : p = true → b' = true)
    (hs : sz = e.n) (hlm : Nat.ble n lenMax = true) (h : p = true → 0 ≤ i0 ∧ i0 ≤ n) : OpOk P c S M ⟨d, .slice t x none (some y) none, ty, pos, af, gd⟩ p (kRd (eL e) (xs.take i0.toNat)) none :=
  OpOk.pure fun hp a g w _ _ ho => by
    have hv := ho x (by simp [Op.operands]) b _ hx (hb hp)
    have hi : a.eval y = _ := ho y (by simp [Op.operands]) b' _ hy (hb' hp)
    have hlt := h hp
    obtain ⟨u, h1, h2⟩ := sl_arr (P := P) (t := t) (w := w) hv hs (Nat.le_of_ble_eq_true hlm) (lo := none) (hi := some (.int ik i0)) (l := 0) (h := i0.toNat) (Nat.zero_le _) (by omega) (.inl ⟨rfl, rfl⟩) (.inr ⟨ik, by rw [show ((i0.toNat : Nat) : Int) = i0 by omega]⟩)
    exact ⟨u, by simp only [execOp, hi, Option.map, Sem.run_bind, h1, Result.andThen_ok, Sem.run_pure], by simpa using h2⟩
theorem ok_slArrPl {t et : TypeId} {n : Nat} [ht : TyArr P t n et] {sz by' : Nat} {zz : Value} [hz : TySz P et sz by' zz] {α : Type} {e : Enc α} {xs : List α} {ik : IntKind} {i0 : Int} (hx : opK S x = some (b, kPtr (eArr n e) xs)) (hb : p = true → b = true) (hy : opK S y = some (b', kInt ik i0)) (hb' : p = true → b' = true)
    (hs : sz = e.n) (hlm : Nat.ble n lenMax = true) (h : p = true → 0 ≤ i0 ∧ i0 ≤ n) : OpOk P c S M ⟨d, .slice t x (some y) none none, ty, pos, af, gd⟩ p (kRd (eL e) ((xs.take n).drop i0.toNat)) none :=
  OpOk.pure fun hp a g w _ _ ho => by
    have hv := ho x (by simp [Op.operands]) b _ hx (hb hp)
    have hi : a.eval y = _ := ho y (by simp [Op.operands]) b' _ hy (hb' hp)
    have hlt := h hp
    obtain ⟨u, h1, h2⟩ := sl_arr (P := P) (t := t) (w := w) hv hs (Nat.le_of_ble_eq_true hlm) (lo := some (.int ik i0)) (hi := none) (l := i0.toNat) (h := n) (by omega) (Nat.le_refl _) (.inr ⟨ik, by rw [show ((i0.toNat : Nat) : Int) = i0 by omega]⟩) (.inl ⟨rfl, rfl⟩)
    exact ⟨u, by simp only [execOp, hi, Option.map, Sem.run_bind, h1, Result.andThen_ok, Sem.run_pure], h2⟩
end
end Go.Fl

/- Integers of any size in arrays of the call's own: loads and stores at any place. -/
namespace Go.Fl
open Go Go.RowKit
def eZ : Enc Int := eC wh eW
instance {z : Int} : Norm eZ z (kRd eW (wh z)) := ⟨fun h => h⟩
instance {z : Int} : CellsK (kRd eZ z) [kB (decide (z < 0)), kRd (eL eI) (digN z.natAbs)] := inferInstanceAs (CellsK (kRd eW (wh z)) _)
instance {z : Int} {tl : List Know} : EncCells eZ z tl (kB (decide (z < 0)) :: kRd (eL eI) (digN z.natAbs) :: tl) := ⟨fun h h' => (inferInstance : EncCells eW (wh z) tl (kB (decide (z < 0)) :: kRd (eL eI) (digN z.natAbs) :: tl)).imp h h'⟩
instance {z : Int} {r : List Know} : RdOf (kB (decide (z < 0)) :: kRd (eL eI) (digN z.natAbs) :: r) eZ z r := ⟨fun h => (inferInstance : RdOf (kB (decide (z < 0)) :: kRd (eL eI) (digN z.natAbs) :: r) eW (decide (z < 0), digN z.natAbs) r).imp h⟩
instance {z : Int} : ToRd (kRd eW (wh z)) eZ z := ⟨fun h => ⟨h.cells, eW.all1 h.cells⟩⟩
instance {r : List Know} : RdOf (kB false :: kDet (.slice none 0 0) :: r) eZ 0 r := ⟨fun h => (inferInstance : RdOf (kB false :: kDet (.slice none 0 0) :: r) eW (false, []) r).imp h⟩
def wC (f : Nat → Int) : Nat → Nat → List Know
  | _, 0 => []
  | i, m + 1 => kB (decide (f i < 0)) :: kRd (eL eI) (digN (f i).natAbs) :: wC f (i + 1) m
theorem wC_len {f : Nat → Int} : ∀ {m i : Nat}, (wC f i m).length = m * 2
  | 0, _ => rfl
  | m + 1, i => by simp only [wC, List.length_cons, wC_len (m := m)]; omega
instance {f : Nat → Int} {i m : Nat} : KsDep (wC f i m) [] := ⟨by
  intro g g' vs hl _ h
  induction m generalizing i vs with
  | zero => cases vs with
    | nil => trivial
    | cons => exact h.elim
  | succ m ih => match vs, h with
    | v :: u :: vs, ⟨h1, h2, h3⟩ => exact ⟨h1, KDep.dep (k := kRd (eL eI) _) (g := g) hl (fun _ h => by cases h) h2, ih h3⟩⟩
theorem allK_split {g : Gh} : ∀ {ks ls : List Know} {vs : List Value}, allK g (ks ++ ls) vs → ∃ v1 v2, vs = v1 ++ v2 ∧ allK g ks v1 ∧ allK g ls v2
  | [], _, vs, h => ⟨[], vs, rfl, trivial, h⟩
  | _ :: _, _, v :: vs, h => by
    obtain ⟨v1, v2, rfl, h1, h2⟩ := allK_split h.2
    exact ⟨v :: v1, v2, rfl, ⟨h.1, h1⟩, h2⟩
  | _ :: _, _, [], h => h.elim
instance (priority := low) {ks ls : List Know} {ds es : List Nat} [h : KsDep ks ds] [k : KsDep ls es] : KsDep (ks ++ ls) (ds ++ es) := ⟨fun hl hd h' => by
  obtain ⟨v1, v2, rfl, h1, h2⟩ := allK_split h'
  exact allK_append (h.dep hl (fun t ht => hd t (List.mem_append.2 (.inl ht))) h1) (k.dep hl (fun t ht => hd t (List.mem_append.2 (.inr ht))) h2)⟩
instance {f : Nat → Int} {i m : Nat} : OneKs (wC f i m) := ⟨by
  intro g cs h
  induction m generalizing i cs with
  | zero => cases cs with
    | nil => rfl
    | cons => exact h.elim
  | succ m ih => match cs, h with
    | v :: u :: vs, ⟨h1, h2, h3⟩ => simp only [List.all_cons, OneC.imp (k := kB _) h1, OneC.imp (k := kRd (eL eI) _) h2, ih h3, Bool.and_self]⟩
instance {ks ls : List Know} [h : OneKs ks] [k : OneKs ls] : OneKs (ks ++ ls) := ⟨fun h' => by
  obtain ⟨v1, v2, rfl, h1, h2⟩ := allK_split h'
  rw [List.all_append, h.imp h1, k.imp h2]; rfl⟩
theorem wC_rd {f : Nat → Int} {g : Gh} : ∀ {m i : Nat} {cs : List Value}, allK g (wC f i m) cs → rdA eZ g.J cs ((List.range' i m).map f)
  | 0, _, cs, h => by cases cs with
    | nil => rfl
    | cons => exact h.elim
  | m + 1, i, cs, h => by
    match cs, h with
    | v :: u :: vs, ⟨h1, h2, h3⟩ =>
      obtain ⟨c1, c2, he, q1, q2⟩ := (inferInstance : RdOf (kB (decide (f i < 0)) :: kRd (eL eI) (digN (f i).natAbs) :: []) eZ (f i) []).imp (g := g) (cs := [v, u]) ⟨h1, h2, trivial⟩
      cases c2 with
      | nil =>
        rw [List.append_nil] at he
        subst he
        exact ⟨[v, u], vs, rfl, q1, wC_rd h3⟩
      | cons => exact q2.elim
theorem range_tab {m : Nat} {f : Nat → Int} : (List.range' 0 m).map f = tab m f := by rw [← List.range_eq_range']; rfl
instance {f : Nat → Int} {m : Nat} {r : List Know} : RdOf (wC f 0 m ++ r) (eArr m eZ) (tab m f) r := ⟨fun h => by
  obtain ⟨v1, v2, rfl, h1, h2⟩ := allK_split h
  exact ⟨v1, v2, rfl, ⟨tab_len, by rw [← range_tab]; exact wC_rd h1⟩, h2⟩⟩
instance {f : Nat → Int} {m : Nat} : RdOf (wC f 0 m) (eArr m eZ) (tab m f) [] := ⟨fun {g cs} h => ⟨cs, [], by simp, ⟨tab_len, by rw [← range_tab]; exact wC_rd h⟩, trivial⟩⟩
instance {f : Nat → Int} {m : Nat} : RdRow (wC f 0 m) eZ (tab m f) := ⟨fun {g cs} h i x hx => rdA_at (J := g.J) (by rw [← range_tab]; exact wC_rd h) hx⟩
theorem wC_cells {f : Nat → Int} {g : Gh} {tl : List Know} {ds : List Value} (ht : allK g tl ds) : ∀ {xs : List Int} {i : Nat} {cs : List Value}, rdA eZ g.J cs xs → (∀ j, j < xs.length → f (i + j) = nth xs j) → allK g (wC f i xs.length ++ tl) (cs ++ ds)
  | [], _, _, h, _ => by have h : _ = [] := h; subst h; exact ht
  | x :: xs, i, _, ⟨c1, c2, h, h1, h2⟩, hf => by
    subst h
    have hx : f i = x := hf 0 (by simp)
    have hr := wC_cells (f := f) ht (i := i + 1) h2 (fun j hj => by
      have := hf (j + 1) (by simp; omega)
      rw [show i + 1 + j = i + (j + 1) by omega, this]; rfl)
    have := (inferInstance : EncCells eZ x (wC f (i + 1) xs.length ++ tl) _).imp h1 hr
    simp only [List.length_cons, wC, hx, List.cons_append]
    rw [List.append_assoc]
    exact this
instance {m : Nat} {l : List Int} {tl : List Know} : EncCells (eArr m eZ) l tl (wC (nth l) 0 m ++ tl) := ⟨fun ⟨h1, h2⟩ ht => by
  subst h1
  exact wC_cells ht h2 (fun j _ => by rw [Nat.zero_add])⟩
instance {f : Nat → Int} {r : List Know} : SubK (wC f 0 4 ++ r) 0 8 (wC f 0 4) := ⟨by simp [wC], rfl⟩
instance {f : Nat → Int} {r : List Know} : SubK (wC f 0 4 ++ r) (0 + 0) 8 (wC f 0 4) := ⟨by simp [wC], rfl⟩
instance {f : Nat → Int} {a b : Know} : SubK (wC f 0 4 ++ [a, b]) 8 2 [a, b] := ⟨rfl, rfl⟩
instance {f : Nat → Int} {a b : Know} : SubK (wC f 0 4 ++ [a, b]) (0 + 8) 2 [a, b] := ⟨rfl, rfl⟩
instance {f : Nat → Int} {a b : Know} : SubK (wC f 0 4 ++ [a, b]) 0 10 (wC f 0 4 ++ [a, b]) := ⟨rfl, rfl⟩
instance {f : Nat → Int} {a b x y : Know} : SetAt (wC f 0 4 ++ [a, b]) 8 [x, y] (wC f 0 4 ++ [x, y]) := ⟨by simp [wC], rfl⟩
instance {f : Nat → Int} {a b x y : Know} : SetAt (wC f 0 4 ++ [a, b]) (0 + 8) [x, y] (wC f 0 4 ++ [x, y]) := ⟨by simp [wC], rfl⟩
instance {f : Nat → Int} {a b k0 k1 k2 k3 k4 k5 k6 k7 k8 k9 : Know} : SetAt [k0, k1, k2, k3, k4, k5, k6, k7, k8, k9] 0 (wC f 0 4 ++ [a, b]) (wC f 0 4 ++ [a, b]) := ⟨by simp [wC], by simp [wC]⟩
instance {f f' : Nat → Int} {a b a' b' : Know} : SetAt (wC f' 0 4 ++ [a', b']) 0 (wC f 0 4 ++ [a, b]) (wC f 0 4 ++ [a, b]) := ⟨by simp [wC], by simp [wC]⟩
def upd (f : Nat → Int) (j : Nat) (z : Int) : Nat → Int := fun i => if i = j then z else f i
theorem wC_get {f : Nat → Int} {g : Gh} {r : List Know} {m j : Nat} {cs : List Value} (h : allK g (wC f 0 m ++ r) cs) (hj : j < m) : ∃ ds, eW.rd g.J ds (wh (f j)) ∧ ∀ q v, ds[q]? = some v → cs[2 * j + q]? = some v := by
  obtain ⟨v1, v2, rfl, h1, _⟩ := allK_split h
  have hr := wC_rd h1
  rw [range_tab] at hr
  obtain ⟨ds, q1, q2⟩ := rdA_at hr (i := j) (x := f j) (by rw [show f j = nth (tab m f) j from (nth_tab hj).symm]; exact nth_get (by rw [tab_len]; exact hj))
  refine ⟨ds, q1, fun q v hv => ?_⟩
  have := q2 q v hv
  rw [show eZ.n = 2 from rfl] at this
  rw [Nat.mul_comm, List.getElem?_append_left (List.getElem?_eq_some_iff.1 this).1]
  exact this
theorem wC_upd {f : Nat → Int} {z : Int} {g : Gh} {v u : Value} (hv : v = .bool (decide (z < 0))) (hu : kRd (eL eI) (digN z.natAbs) g u) : ∀ {m i j : Nat} {r : List Know} {cs : List Value}, allK g (wC f i m ++ r) cs → j < m → allK g (wC (upd f (i + j) z) i m ++ r) (cs.take (2 * j) ++ [v, u] ++ cs.drop (2 * j + 2))
  | 0, _, _, _, _, _, hj => by omega
  | m + 1, i, 0, r, cs, h, _ => by
    match cs, h with
    | a :: b :: cs, ⟨_, _, h3⟩ =>
      have h4 : ∀ {m k : Nat} {vs : List Value}, i < k → allK g (wC f k m ++ r) vs → allK g (wC (upd f i z) k m ++ r) vs := fun {m} => by
        induction m with
        | zero => exact fun _ h => h
        | succ m ih =>
          intro k vs hk h
          match vs, h with
          | a :: b :: vs, ⟨q1, q2, q3⟩ =>
            have e : upd f i z k = f k := if_neg (by omega)
            simp only [wC, e, List.cons_append]
            exact ⟨q1, q2, ih (by omega) q3⟩
      have e : upd f i z i = z := if_pos rfl
      simp only [wC, Nat.add_zero, e, List.cons_append, Nat.mul_zero, List.take_zero, List.nil_append, Nat.zero_add, List.drop_succ_cons, List.drop_zero]
      exact ⟨hv, hu, h4 (by omega) h3⟩
  | m + 1, i, j + 1, r, cs, h, hj => by
    match cs, h with
    | a :: b :: cs, ⟨h1, h2, h3⟩ =>
      have := wC_upd hv hu (i := i + 1) (j := j) h3 (by omega)
      rw [show i + 1 + j = i + (j + 1) by omega] at this
      have e : upd f (i + (j + 1)) z i = f i := if_neg (by omega)
      simp only [wC, e, List.cons_append, show 2 * (j + 1) = 2 * j + 2 by omega, List.take_succ_cons, List.drop_succ_cons]
      exact ⟨h1, h2, this⟩
section
variable {P : Program} {c : Ctx} {S : Slots} {M : Conts} {p : Bool} {d : Option Tmp} {ty : TypeId} {pos : String} {af : Array Edge} {gd : Option (Nat × Bool)} {x y : Operand} {b b' : Bool}
theorem ok_ldW {t : TypeId} [ht : TyAgg P t] {by' : Nat} {zz : Value} [hz : TySz P t 2 by' zz] {u o : Nat} (j : Nat) {m : Nat} {f : Nat → Int} {r : List Know} {dep : List Nat} [hl : LkM M u (cBlk (wC f 0 m ++ r)) dep] (hj : p = true → j < m) (ho : p = true → o = 2 * j) (hx : opK S x = some (b, kOwn u o)) (hb : p = true → b = true) :
    OpOk P c S M ⟨d, .load t x, ty, pos, af, gd⟩ p (kRd eW (wh (f j))) none :=
  OpOk.pure fun hp a g w hok hc hop => by
    obtain ⟨bl, cap, h1, h2⟩ := hop x (by simp [Op.operands]) b _ hx (hb hp)
    obtain ⟨cs, ty', h3, h4⟩ := blk_of (ks := wC f 0 m ++ r) hc h1
    obtain ⟨ds, q1, q2⟩ := wC_get h4 (hj hp)
    have ho := ho hp
    subst ho
    exact ⟨.agg ds.toArray, by simp only [execOp, h2, Sem.run_bind, run_loadAt_agg (P := P) (t := t) (w := w) (b := bl) (o := 2 * j) (eW.len q1) (fun q v hv => cell_own h3 (by simpa using q2 q v hv)), Result.andThen_ok, Sem.run_pure], _, q1, rfl⟩
theorem ok_idxW {t et : TypeId} {n : Nat} [ht : TyArr P t n et] {by' : Nat} {zz : Value} [hz : TySz P et 2 by' zz] [hag : TyAgg P et] {f : Nat → Int} {ik : IntKind} {i : Nat} (hx : opK S x = some (b, kAgg (wC f 0 n))) (hb : p = true → b = true) (hy : opK S y = some (b', kInt ik (i : Int))) (hb' : p = true → b' = true) (h : p = true → i < n) :
    OpOk P c S M ⟨d, .index t x y, ty, pos, af, gd⟩ p (kRd eW (wh (f i))) none := by
  cases p with
  | false => exact fun hp => by cases hp
  | true =>
    have := ok_idxAA (P := P) (c := c) (M := M) (d := d) (ty := ty) (pos := pos) (af := af) (gd := gd) (t := t) (et := et) eZ (ks := wC f 0 n) (xs := tab n f) hx hb hy hb' rfl rfl wC_len (fun _ => ⟨h rfl, by rw [tab_len]; exact h rfl⟩)
    rwa [nth_tab (h rfl)] at this
end
section
variable {P : Program} {c : Ctx} {ops : Array Oper} {S : Slots} {M : Conts} {rest : List Oper} {Q : Exit → Act → World → Prop} {x y : Operand}
variable {ty : TypeId} {pos : String} {af : Array Edge}
theorem TrL.stW {t : TypeId} {by' : Nat} {zz : Value} [hz : TySz P t 2 by' zz] {u o : Nat} (j : Nat) {m : Nat} {f : Nat → Int} {z : Int} {r : List Know} {dep dep' : List Nat} {M' : Conts} (hj : j < m) (ho : o = 2 * j) (hx : opK S x = some (true, kOwn u o)) (hy : opK S y = some (true, kRd eW (wh z))) [hl : LkM M u (cBlk (wC f 0 m ++ r)) dep]
    [hd : KsDep (wC (upd f j z) 0 m ++ r) dep'] [hup : UpM M u (cBlk (wC (upd f j z) 0 m ++ r)) dep' M'] (hs : subT dep' (tags M) = true) (K : TrL P c ops S M' rest Q) : TrL P c ops S M (⟨none, .store t x y, ty, pos, af, none⟩ :: rest) Q := by
  intro a g w hsat
  subst ho
  obtain ⟨b, cap, hm, he⟩ := opK_holds hsat.slots hx rfl
  have hv := opK_holds hsat.slots hy rfl
  obtain ⟨cs, tt, h3, h4⟩ := blk_of (ks := wC f 0 m ++ r) hsat.conts hm
  obtain ⟨h5, h6⟩ := (inferInstance : CellsK (kRd eW (wh z)) [kB (decide (z < 0)), kRd (eL eI) (digN z.natAbs)]).imp hv
  obtain ⟨v1, u1, hvs, e1, e2⟩ : ∃ v u, (a.eval y).cells.toList = [v, u] ∧ v = .bool (decide (z < 0)) ∧ kRd (eL eI) (digN z.natAbs) g u := by
    match h : (a.eval y).cells.toList, h5 with
    | [v, u], h5 => exact ⟨v, u, rfl, h5.1, h5.2.1⟩
  have hcl := allK_len h4
  simp only [Array.length_toList, List.length_append, wC_len] at hcl
  have hsz : (a.eval y).cells.size = 2 := by rw [← Array.length_toList, hvs]; rfl
  have hr := run_storeAt (P := P) (t := t) (o := 2 * j) h3 hsz (by omega) (List.all_eq_true.1 h6)
  refine wpList_plain rfl fun K' hK' => ?_
  unfold Oper.wp
  simp only [execOp, he, Sem.run_bind, hr, Result.andThen_ok, Sem.run_pure, Oper.upon, Act.put]
  have hnew := wC_upd (j := j) e1 e2 h4 hj
  rw [Nat.zero_add] at hnew
  exact hK' _ _ (K a g _ (hsat.store hm h3 hup ⟨_, _, rfl, by rw [hvs]; simpa using hnew⟩ inferInstance (subT_spec hs)))
end
def eNu : Enc (List Int × Int) := eC (fun v : List Int × Int => (v.1, v.2, ())) (eP (eArr 4 eZ) (eP eZ eU))
instance {v : List Int × Int} : CellsK (kRd eNu v) (wC (nth v.1) 0 4 ++ [kB (decide (v.2 < 0)), kRd (eL eI) (digN v.2.natAbs)]) := inferInstanceAs (CellsK (kRd (eC (fun v : List Int × Int => (v.1, v.2, ())) (eP (eArr 4 eZ) (eP eZ eU))) v) _)
instance {v : List Int × Int} : Norm eNu v (kRd eNu v) := ⟨fun h => h⟩
instance {v : List Int × Int} : FieldP eNu v 0 (eArr 4 eZ) v.1 0 := inferInstanceAs (FieldP (eC (fun v : List Int × Int => (v.1, v.2, ())) (eP (eArr 4 eZ) (eP eZ eU))) v 0 _ _ _)
instance {v : List Int × Int} : FieldP eNu v 1 eZ v.2 8 := inferInstanceAs (FieldP (eC (fun v : List Int × Int => (v.1, v.2, ())) (eP (eArr 4 eZ) (eP eZ eU))) v 1 _ _ _)
instance {f : Nat → Int} {d : Int} {r : List Know} : RdOf (wC f 0 4 ++ kB (decide (d < 0)) :: kRd (eL eI) (digN d.natAbs) :: r) eNu (tab 4 f, d) r := ⟨fun h => (inferInstance : RdOf (wC f 0 4 ++ kB (decide (d < 0)) :: kRd (eL eI) (digN d.natAbs) :: r) (eP (eArr 4 eZ) (eP eZ eU)) (tab 4 f, d, ()) r).imp h⟩
instance {r : List Know} : RdOf (kDet (.bool false) :: kDet (.slice none 0 0) :: r) eZ 0 r := ⟨fun {g cs} h => (inferInstance : RdOf (kB false :: kDet (.slice none 0 0) :: r) eZ 0 r).imp (g := g) (cs := cs) (match cs, h with | _ :: _ :: _, ⟨h1, h2, h3⟩ => ⟨h1, h2, h3⟩)⟩
instance (priority := low) {a b c d e : Int} {ks r1 r2 r3 r4 r : List Know} [h1 : RdOf ks eZ a r1] [h2 : RdOf r1 eZ b r2] [h3 : RdOf r2 eZ c r3] [h4 : RdOf r3 eZ d r4] [h5 : RdOf r4 eZ e r] : RdOf ks eNu ([a, b, c, d], e) r := ⟨fun {g cs} h => by
  obtain ⟨c1, t1, rfl, q1, h⟩ := h1.imp h
  obtain ⟨c2, t2, rfl, q2, h⟩ := h2.imp h
  obtain ⟨c3, t3, rfl, q3, h⟩ := h3.imp h
  obtain ⟨c4, t4, rfl, q4, h⟩ := h4.imp h
  obtain ⟨c5, t5, rfl, q5, h⟩ := h5.imp h
  exact ⟨c1 ++ c2 ++ c3 ++ c4 ++ c5, t5, by simp, ⟨c1 ++ c2 ++ c3 ++ c4, c5, by simp, ⟨rfl, c1, c2 ++ c3 ++ c4, by simp, q1, c2, c3 ++ c4, by simp, q2, c3, c4, by simp, q3, c4, [], by simp, q4, rfl⟩, c5, [], by simp, q5, rfl⟩, h⟩⟩
theorem eNu_len {v : List Int × Int} {g : Gh} {u : Value} (h : kRd eNu v g u) : v.1.length = 4 := by
  obtain ⟨_, ⟨_, _, _, ⟨h, _⟩, _⟩, _⟩ := h
  exact h
theorem cB_eq {ks ks' : List Know} (h : ks = ks') : ∀ g b o, cBlk ks g b o → cBlk ks' g b o := fun _ _ _ h' => by subst h; exact h'
theorem wC_congr {f f' : Nat → Int} : ∀ {m i : Nat}, (∀ j, i ≤ j → j < i + m → f j = f' j) → wC f i m = wC f' i m
  | 0, _, _ => rfl
  | m + 1, i, h => by simp only [wC]; rw [h i (Nat.le_refl _) (by omega), wC_congr fun j h1 h2 => h j (by omega) (by omega)]
theorem cW {f f' : Nat → Int} {m : Nat} {r r' : List Know} (h : ∀ j, j < m → f j = f' j) (hr : r = r') : ∀ g b o, cBlk (wC f 0 m ++ r) g b o → cBlk (wC f' 0 m ++ r') g b o := cB_eq (by rw [wC_congr fun j _ hj => h j (by omega), hr])
theorem dcell {d d' : Int} (h : d = d') : [kB (decide (d < 0)), kRd (eL eI) (digN d.natAbs)] = [kB (decide (d' < 0)), kRd (eL eI) (digN d'.natAbs)] := by rw [h]
end Go.Fl

/- Numbers: coefficients over a denominator, in lowest terms. Plain Lean, no program in sight. -/
namespace Go.Fl
def gL (g : Nat) : List Int → Nat
  | [] => g
  | c :: cs => gL (Nat.gcd g c.natAbs) cs
theorem gL_dvd : ∀ {cs : List Int} {g : Nat}, gL g cs ∣ g ∧ ∀ c ∈ cs, gL g cs ∣ c.natAbs
  | [], g => ⟨Nat.dvd_refl _, fun c h => by cases h⟩
  | c :: cs, g => by
    obtain ⟨h1, h2⟩ := gL_dvd (cs := cs) (g := Nat.gcd g c.natAbs)
    rw [gL]
    refine ⟨Nat.dvd_trans h1 (Nat.gcd_dvd_left _ _), fun x hx => ?_⟩
    rcases List.mem_cons.1 hx with rfl | hx
    · exact Nat.dvd_trans h1 (Nat.gcd_dvd_right _ _)
    · exact h2 x hx
theorem gL_pos {cs : List Int} {g : Nat} (h : 0 < g) : 0 < gL g cs := Nat.pos_of_dvd_of_pos gL_dvd.1 h
theorem gL_mul : ∀ {cs : List Int} {g : Nat} {m : Int}, gL (g * m.natAbs) (cs.map fun c => c * m) = gL g cs * m.natAbs
  | [], _, _ => rfl
  | c :: cs, g, m => by rw [List.map_cons, gL, gL, Int.natAbs_mul, Nat.gcd_mul_right, gL_mul]
theorem gL_snoc : ∀ {cs : List Int} {g : Nat} {c : Int}, gL g (cs ++ [c]) = Nat.gcd (gL g cs) c.natAbs
  | [], _, _ => rfl
  | x :: cs, g, c => by rw [List.cons_append, gL, gL, gL_snoc]
def sgG (d : Int) (cs : List Int) : Int := if d < 0 then -(gL d.natAbs cs : Int) else gL d.natAbs cs
theorem sgG_ne {d : Int} {cs : List Int} (h : d ≠ 0) : sgG d cs ≠ 0 := by
  have := gL_pos (cs := cs) (show 0 < d.natAbs by omega)
  unfold sgG; split <;> omega
theorem sgG_dvd {d : Int} {cs : List Int} {c : Int} (h : c = d ∨ c ∈ cs) : sgG d cs ∣ c := by
  have h1 : ((gL d.natAbs cs : Nat) : Int) ∣ c := by
    refine Int.ofNat_dvd_left.2 ?_
    rcases h with rfl | h
    · exact gL_dvd.1
    · exact gL_dvd.2 c h
  unfold sgG
  split
  · exact Int.neg_dvd.2 h1
  · exact h1
theorem sgG_mul {d m : Int} {cs : List Int} (hd : d ≠ 0) (hm : m ≠ 0) : sgG (d * m) (cs.map fun c => c * m) = sgG d cs * m := by
  unfold sgG
  rw [Int.natAbs_mul, gL_mul, Int.natCast_mul]
  by_cases h1 : d < 0 <;> by_cases h2 : m < 0
  · have h3 := Int.mul_pos_of_neg_of_neg h1 h2
    rw [if_neg (by omega), if_pos h1, show ((m.natAbs : Nat) : Int) = -m by omega, Int.mul_neg, Int.neg_mul]
  · have h3 := Int.mul_neg_of_neg_of_pos h1 (show 0 < m by omega)
    rw [if_pos h3, if_pos h1, show ((m.natAbs : Nat) : Int) = m by omega, Int.neg_mul]
  · have h3 := Int.mul_neg_of_pos_of_neg (show 0 < d by omega) h2
    rw [if_pos h3, if_neg h1, show ((m.natAbs : Nat) : Int) = -m by omega, Int.mul_neg, Int.neg_neg]
  · have h3 := Int.mul_pos (show 0 < d by omega) (show 0 < m by omega)
    rw [if_neg (by omega), if_neg h1, show ((m.natAbs : Nat) : Int) = m by omega]
theorem ediv_scale {a b m : Int} (hb : b ≠ 0) (hm : m ≠ 0) (h : b ∣ a) : a * m / (b * m) = a / b := by
  obtain ⟨q, rfl⟩ := h
  rw [Int.mul_ediv_cancel_left _ hb, show b * q * m = b * m * q by rw [Int.mul_assoc, Int.mul_comm q, ← Int.mul_assoc], Int.mul_ediv_cancel_left _ (Int.mul_ne_zero hb hm)]
def loN (cs : List Int) (d : Int) : List Int × Int := (cs.map fun c => c / sgG d cs, d / sgG d cs)
theorem low_scale {cs : List Int} {d m : Int} (hd : d ≠ 0) (hm : m ≠ 0) : loN (cs.map fun c => c * m) (d * m) = loN cs d := by
  unfold loN
  rw [sgG_mul hd hm, List.map_map]
  refine Prod.ext ?_ (ediv_scale (sgG_ne hd) hm (sgG_dvd (.inl rfl)))
  exact List.map_congr_left fun c hc => ediv_scale (sgG_ne hd) hm (sgG_dvd (.inr hc))
theorem low_eq {cs cs' : List Int} {d d' : Int} (hd : d ≠ 0) (hd' : d' ≠ 0) (h : (cs.map fun c => c * d') = cs'.map fun c => c * d) : loN cs d = loN cs' d' := by
  rw [← low_scale (cs := cs) hd hd', ← low_scale (cs := cs') hd' hd, h, Int.mul_comm]
theorem low_len {cs : List Int} {d : Int} : (loN cs d).1.length = cs.length := by unfold loN; simp
theorem low_pos {cs : List Int} {d : Int} (hd : d ≠ 0) : 0 < (loN cs d).2 := by
  unfold loN
  obtain ⟨q, hq⟩ := sgG_dvd (d := d) (cs := cs) (.inl rfl)
  have h0 := sgG_ne (cs := cs) hd
  show 0 < d / sgG d cs
  have e : d / sgG d cs = q := (congrArg (fun z => z / sgG d cs) hq).trans (Int.mul_ediv_cancel_left _ h0)
  rw [e]
  have hg := gL_pos (cs := cs) (show 0 < d.natAbs by omega)
  refine Classical.byContradiction fun hn => ?_
  by_cases h : d < 0
  · have e : sgG d cs = -(gL d.natAbs cs : Int) := if_pos h
    rw [e] at hq
    have : (-(gL d.natAbs cs : Int)) * q = (gL d.natAbs cs : Int) * (-q) := by rw [Int.neg_mul, Int.mul_neg]
    have h5 := Int.mul_nonneg (a := (gL d.natAbs cs : Int)) (b := -q) (by omega) (by omega)
    omega
  · have e : sgG d cs = (gL d.natAbs cs : Int) := if_neg h
    rw [e] at hq
    have h5 := Int.mul_nonneg (a := (gL d.natAbs cs : Int)) (b := -q) (by omega) (by omega)
    rw [Int.mul_neg] at h5
    omega
theorem trim_pad : ∀ {xs : List Int} {k : Nat}, trimL (xs ++ List.replicate k 0) = trimL xs
  | [], k => by
    rw [List.nil_append]
    exact trim_zero fun i hi => nth_rep (by simpa using hi)
  | x :: xs, k => by rw [List.cons_append, trimL, trimL, trim_pad]
def red1 (p : List Int) (n : Nat) (xs : List Int) : List Int := tab (xs.length - 1) fun j => nth xs j - if xs.length - 1 - n ≤ j then nth xs (xs.length - 1) * nth p (j - (xs.length - 1 - n)) else 0
theorem red1_len {p xs : List Int} {n : Nat} : (red1 p n xs).length = xs.length - 1 := tab_len
def redF (p : List Int) (n : Nat) : Nat → List Int → List Int
  | 0, xs => xs ++ List.replicate (n - xs.length) 0
  | f + 1, xs => if xs.length ≤ n then xs ++ List.replicate (n - xs.length) 0 else redF p n f (red1 p n xs)
def red (p : List Int) (xs : List Int) : List Int := redF p (p.length - 1) (xs.length - (p.length - 1)) xs
theorem redF_len {p : List Int} {n : Nat} : ∀ {f : Nat} {xs : List Int}, xs.length ≤ n + f → (redF p n f xs).length = n
  | 0, xs, h => by rw [redF, List.length_append, List.length_replicate]; omega
  | f + 1, xs, h => by
    rw [redF]
    split
    · rw [List.length_append, List.length_replicate]; omega
    · exact redF_len (by rw [red1_len]; omega)
theorem red_len {p xs : List Int} : (red p xs).length = p.length - 1 := redF_len (by omega)
end Go.Fl

/- Numbers of a field in lowest terms, as the programs reckon them. No program in sight. -/
namespace Go.Fl
open Go
theorem cmpZ_z {y : Int} : cmpZ y 0 = 0 ↔ y = 0 := by unfold cmpZ; split <;> (try split) <;> omega
theorem gcd_stepZ {x y : Int} : Int.gcd y (x % y) = Int.gcd x y := by
  first
    | (rw [Int.gcd_comm]; exact Int.gcd_emod ..)
    | simp
    | (rw [Int.emod_def, Int.gcd_comm]; simp)
theorem gL_take {c : List Int} {g k : Nat} (hk : k < c.length) : (gL g (c.take (k + 1)) : Int) = Int.gcd (gL g (c.take k) : Int) (nth c k) := by
  have e : c.take (k + 1) = c.take k ++ [nth c k] := by
    rw [List.take_succ_eq_append_getElem hk]
    congr 2
    simp [nth, hk]
  rw [e, gL_snoc]; rfl
theorem gL_le {c : List Int} {g : Nat} (h : 0 < g) : gL g c ≤ g := Nat.le_of_dvd h gL_dvd.1
theorem dl_gL {c : List Int} {d : Int} (h : 0 < d) : dl (gL d.natAbs c : Int) ≤ dl d := digN_len_le (gL_le (by omega))
theorem low_tab {c : List Int} {d : Int} {k : Nat} (hd : 0 < d) (hl : c.length = k) : (tab k (fun i => nth c i / (gL d.natAbs c : Int)), d / (gL d.natAbs c : Int)) = loN c d := by
  have e : sgG d c = (gL d.natAbs c : Int) := if_neg (by omega)
  unfold loN
  rw [e]
  refine Prod.ext ?_ rfl
  show tab k _ = c.map _
  generalize (gL d.natAbs c : Int) = G
  conv => rhs; rw [tab_nth hl]
  simp [tab]
end Go.Fl

/- Contracts: integers of the reference of chapter 1 (division, common divisors). -/
namespace Go.Fl
open Go Go.Proofs
open TrL renaming op → tO
open RunD renaming op → rO

set_option maxRecDepth 100000 in
set_option maxHeartbeats 2000000 in
theorem ct_rdivide (m n : Nat) (h0 : 0 < n) (hm : (digN m).length ≤ 300000) (hn : (digN n).length ≤ 300000) : Ct Tryz.prog 123 [kRd (eL eI) (digN m), kRd (eL eI) (digN n)] (kTup [kRd (eL eI) (digN (m / n)), kRd (eL eI) (digN (m % n))]) := by
  have hdn : dl (n : Int) = (digN n).length := rfl
  have hvn : val (digN n) = n := digN_val n
  refine Ct.mk Tryz.func123 rfl Tryz.ntmps123 rfl (fun w J => ?_); refine Tr.seq (Tr.rg ?_); refine mw rfl rfl rfl ?_; refine mw rfl rfl rfl ?_; refine TrL.fin (End.nxt (Tr.seq (Tr.rg ?_))); refine mv rfl rfl rfl ?_; refine tO (ok_lenJ rfl uu) rfl rfl ?_; refine TrL.new (ok_makeN eI 14 rfl uu rfl uu rfl rfl rfl (fun _ => by omega)) rfl rfl rfl rfl ?_; refine mw rfl rfl rfl ?_; refine TrL.fin (End.nxt (Tr.seq (Tr.rg ?_))); refine mw rfl rfl rfl ?_; refine TrL.fin (End.nxt (Tr.seq (Tr.seq (Tr.rg ?_))))
  refine mv rfl rfl rfl ?_; refine tO (ok_lenJ rfl uu) rfl rfl ?_; refine tO (ok_sub rfl uu rfl uu (fun _ => by omega)) rfl rfl ?_; refine mw rfl rfl rfl ?_; refine TrL.fin (End.nxt ?_)
  refine Tr.for1 (σ := Nat × List Int × Int) [⟨0, true, _, _⟩, ⟨1, true, _, _⟩, ⟨6, true, _, _⟩] [] (fun (i, o, R) => [⟨7, true, [], kRd (eL eI) (digN R.toNat)⟩, ⟨8, true, [], kI ((i : Int) - 1)⟩]) (fun (i, o, R) => [⟨14, [], cArr false 3 eI o (digN m).length⟩]) (fun (i, o, R) => i ≤ (digN m).length ∧ ShS (digN m) o (n : Int) i R) (fun (i, o, R) => ShS (digN m) o (n : Int) 0 R) (fun (i, o, R) => i) (((digN m).length, List.replicate (digN m).length 0, 0)) ⟨Nat.le_refl _, ShS.start (by omega)⟩ (Ent.mk (.n rfl rfl <| .i rfl (by first | rfl | omega | simp <;> omega | assumption) <| .k rfl rfl <| .k rfl rfl <| .k rfl rfl <| .nil) (.a (by first | rfl | omega | simp <;> omega | assumption) (by first | rfl | omega | simp <;> omega | assumption) <| .nil) rfl) ?_ ?_
  · rintro ⟨i, o, R⟩ ⟨hi, hs⟩
    refine Tr.norm (S' := [⟨7, true, _, _⟩, ⟨8, true, _, _⟩, ⟨0, true, _, _⟩, ⟨1, true, _, _⟩, ⟨6, true, _, _⟩]) (M' := [⟨14, _, _⟩]) rfl rfl ?_
    have e1 : ((i : Int) - 1).toNat = i - 1 := by omega
    have hr0 := hs.r0
    have hRd := dv_dlR hr0
    have hRl := dlN hr0.1
    have hol := hs.len
    refine Tr.seq (Tr.seq (Tr.rg ?_)); refine mv rfl rfl rfl ?_; refine tO (ok_geq rfl uu rfl uu) rfl rfl ?_; refine TrL.fin (End.nxt ?_); refine Tr.cnd rfl ?_ ?_
    · intro h4
      replace h4 := of_decide_eq_true h4
      have hs1 : ShS (digN m) o (n : Int) (i - 1 + 1) R := by rw [show i - 1 + 1 = i by omega]; exact hs
      obtain ⟨T, hTe⟩ : ∃ T, T = (R * 100000000 + nth (digN m) (i - 1)) := ⟨_, rfl⟩
      have hdq := dv_q hs1 (by omega)
      rw [← hTe] at hdq
      obtain ⟨hT, hq0, hq1⟩ := hdq
      have hTd := dv_dlT hq1 h0 hT
      have hTl := dlN hT
      have had := (digN_dg m).at (i := i - 1) (by omega)
      refine Tr.skip (End.nxt (Tr.seq (Tr.blk (Tr.seq (Tr.rg ?_))))); refine mv rfl rfl rfl ?_; refine mv rfl rfl rfl ?_
      first | refine tO (ok_idxN rfl uu rfl uu rfl (fun _ => by omega)) rfl rfl ?_ | refine tO (ok_idxP rfl uu rfl uu rfl (fun _ => by omega)) rfl rfl ?_
      refine tO (ok_ldP rfl uu rfl) rfl rfl ?_; refine TrL.new (ok_bsl eI 26 (fun hp => .cons rfl <| .nil) rfl rfl rfl rfl) rfl rfl rfl rfl ?_; refine mv rfl rfl rfl ?_; refine TrL.app rfl rfl rfl rfl rfl rfl rfl rfl (by have h1 : ([nth (digN m) ((i : Int) - 1).toNat]).length = 1 := rfl; omega) (by have h1 : ([nth (digN m) ((i : Int) - 1).toNat]).length = 1 := rfl; omega) ?_; refine TrL.norm (S' := [⟨_, _, _, _⟩, ⟨_, _, _, _⟩, ⟨_, _, _, _⟩, ⟨_, _, _, _⟩, ⟨_, _, _, _⟩, ⟨_, _, _, _⟩, ⟨_, _, _, _⟩, ⟨_, _, _, _⟩, ⟨_, _, _, _⟩, ⟨_, _, _, _⟩, ⟨_, _, _, _⟩, ⟨_, _, _, _⟩, ⟨_, _, _, _⟩, ⟨_, _, _, _⟩]) rfl rfl ?_
      refine TrL.frz 26 [28] ⟨rfl, trivial⟩ (by have h1 : ([nth (digN m) ((i : Int) - 1).toNat]).length = 1 := rfl; simp only [lenMax]; omega) rfl ?_; refine TrL.norm (S' := [⟨_, _, _, _⟩, ⟨_, _, _, _⟩, ⟨_, _, _, _⟩, ⟨_, _, _, _⟩, ⟨_, _, _, _⟩, ⟨_, _, _, _⟩, ⟨_, _, _, _⟩, ⟨_, _, _, _⟩, ⟨_, _, _, _⟩, ⟨_, _, _, _⟩, ⟨_, _, _, _⟩, ⟨_, _, _, _⟩, ⟨_, _, _, _⟩, ⟨_, _, _, _⟩, ⟨_, _, _, _⟩]) rfl rfl ?_; refine tO (ok_call (fun hp => ct_rtrim _ (by have h1 : ([nth (digN m) ((i : Int) - 1).toNat]).length = 1 := rfl; rw [List.length_append]; omega)) (.a rfl uu <| .nil)) rfl rfl ?_; refine mw rfl rfl rfl ?_
      refine TrL.fin (End.nxt (Tr.seq (Tr.rg ?_))); refine mw rfl rfl rfl ?_; refine mw rfl rfl rfl ?_; refine TrL.fin (End.nxt ?_)
      refine Tr.for (σ := Int × Int) [⟨0, true, _, _⟩, ⟨1, true, _, _⟩, ⟨6, true, _, _⟩, ⟨8, true, _, _⟩] [⟨14, _, _⟩] (fun (lo, hi2) => [⟨7, true, [], kRd (eL eI) (digN T.toNat)⟩, ⟨9, true, [], kI lo⟩, ⟨10, true, [], kI hi2⟩]) (fun (lo, hi2) => []) (fun (lo, hi2) => 0 ≤ lo ∧ lo ≤ T / n ∧ T / n ≤ hi2 ∧ hi2 ≤ 99999999) (fun (lo, hi2) => T / n = lo) (fun (lo, hi2) => (hi2 - lo).toNat) ((0, 99999999)) ⟨by omega, by omega, by omega, by omega⟩ (Ent.mk (.r rfl (by rw [hTe, ← e1]; exact dv_trim hr0.1 (by rw [e1]; exact had)) <| .i rfl (by first | rfl | omega | simp <;> omega | assumption) <| .i rfl (by first | rfl | omega | simp <;> omega | assumption) <| .k rfl rfl <| .k rfl rfl <| .k rfl rfl <| .k rfl rfl <| .nil) (.k rfl <| .nil) rfl) ?_ ?_
      · rintro ⟨lo, hi2⟩ ⟨hl0, hl1, hl2, hl3⟩
        refine Tr.norm (S' := [⟨7, true, _, _⟩, ⟨9, true, _, _⟩, ⟨10, true, _, _⟩, ⟨0, true, _, _⟩, ⟨1, true, _, _⟩, ⟨6, true, _, _⟩, ⟨8, true, _, _⟩]) (M' := [⟨14, _, _⟩]) rfl rfl ?_
        have hmid : 0 ≤ lo + hi2 + 1 := by omega
        have hme := Int.tdiv_eq_ediv_of_nonneg (b := 2) hmid
        have hmn := Int.mul_nonneg (a := (n : Int)) (b := (lo + hi2 + 1).tdiv 2) (by omega) (by omega)
        have hmd := dl_small (F := (lo + hi2 + 1).tdiv 2) (by omega) (by omega)
        have hmm := dl_mul (n : Int) ((lo + hi2 + 1).tdiv 2)
        refine Tr.seq (Tr.seq (Tr.rg ?_)); refine mv rfl rfl rfl ?_; refine mv rfl rfl rfl ?_; refine tO (ok_lss rfl uu rfl uu) rfl rfl ?_; refine TrL.fin (End.nxt ?_); refine Tr.cnd rfl ?_ ?_
        · intro h8
          replace h8 := of_decide_eq_true h8
          refine Tr.skip (End.nxt (Tr.blk (Tr.seq (Tr.rg ?_)))); refine mv rfl rfl rfl ?_; refine mv rfl rfl rfl ?_; refine tO (ok_add rfl uu rfl uu (fun _ => by omega)) rfl rfl ?_; refine tO (ok_add rfl uu rfl uu (fun _ => by omega)) rfl rfl ?_; refine tO (ok_quo rfl uu rfl uu (fun _ => by omega)) rfl rfl ?_; refine mw rfl rfl rfl ?_; refine TrL.fin (End.nxt (Tr.seq (Tr.rg ?_))); refine mv rfl rfl rfl ?_; refine mv rfl rfl rfl ?_; refine mv rfl rfl rfl ?_; refine tO (ok_bslJ eI (fun hp => .cons rfl <| .nil) rfl rfl rfl rfl) rfl rfl ?_
          refine tO (ok_call (fun hp => ct_rMul (digN n) [(lo + hi2 + 1).tdiv 2] (digN_dg n).inI (in1 (by omega)) (by omega) (by simp)) (.a rfl uu <| .a rfl uu <| .nil)) rfl rfl ?_; refine tO (ok_call (fun hp => ct_rzless (digN T.toNat) _ (digN_nm _) (lst_nm (by rw [hvn, val_one]; exact hmn)) (by omega) (by rw [lst_len, hvn, val_one]; omega)) (.a rfl uu <| .a rfl uu <| .nil)) rfl rfl ?_; refine TrL.fin (End.nxt ?_); refine Tr.cnd rfl ?_ ?_
          · intro h10
            have h10 := of_decide_eq_true h10
            rw [digN_val, lst_val, hvn, val_one, Int.toNat_of_nonneg hT] at h10
            refine Tr.rg ?_; refine mv rfl rfl rfl ?_; refine tO (ok_sub rfl uu rfl uu (fun _ => by omega)) rfl rfl ?_; refine mw rfl rfl rfl ?_; refine TrL.fin (End.blk ?_)
            exact End.lp ((lo, (lo + hi2 + 1).tdiv 2 - 1)) ⟨by omega, by omega, dv_high (by omega) h10, by omega⟩ (by show ((lo + hi2 + 1).tdiv 2 - 1 - lo).toNat < (hi2 - lo).toNat; omega) (Ent.mk (.r rfl (by first | rfl | omega | simp <;> omega | assumption) <| .i rfl (by first | rfl | omega | simp <;> omega | assumption) <| .i rfl (by first | rfl | omega | simp <;> omega | assumption) <| .k rfl rfl <| .k rfl rfl <| .k rfl rfl <| .k rfl rfl <| .nil) (.k rfl <| .nil) rfl)
          · intro h10
            have h10 := of_decide_eq_false h10
            rw [digN_val, lst_val, hvn, val_one, Int.toNat_of_nonneg hT] at h10
            refine Tr.rg ?_; refine mv rfl rfl rfl ?_; refine mw rfl rfl rfl ?_; refine TrL.fin (End.blk ?_)
            exact End.lp (((lo + hi2 + 1).tdiv 2, hi2)) ⟨by omega, dv_low (by omega) (by omega), by omega, by omega⟩ (by show (hi2 - (lo + hi2 + 1).tdiv 2).toNat < (hi2 - lo).toNat; omega) (Ent.mk (.r rfl (by first | rfl | omega | simp <;> omega | assumption) <| .i rfl (by first | rfl | omega | simp <;> omega | assumption) <| .i rfl (by first | rfl | omega | simp <;> omega | assumption) <| .k rfl rfl <| .k rfl rfl <| .k rfl rfl <| .k rfl rfl <| .nil) (.k rfl <| .nil) rfl)
        · intro h8
          replace h8 := Int.not_lt.1 (of_decide_eq_false h8)
          refine Tr.exit (Exs.thn (Exs.thn (Exs.here ?_)))
          exact End.cut ((lo, hi2)) (by omega) (Ent.mk (.r rfl (by first | rfl | omega | simp <;> omega | assumption) <| .i rfl (by first | rfl | omega | simp <;> omega | assumption) <| .i rfl (by first | rfl | omega | simp <;> omega | assumption) <| .k rfl rfl <| .k rfl rfl <| .k rfl rfl <| .k rfl rfl <| .nil) (.k rfl <| .nil) rfl)
      · rintro ⟨lo, hi2⟩ hlo
        refine Tr.norm (S' := [⟨7, true, _, _⟩, ⟨9, true, _, _⟩, ⟨10, true, _, _⟩, ⟨0, true, _, _⟩, ⟨1, true, _, _⟩, ⟨6, true, _, _⟩, ⟨8, true, _, _⟩]) (M' := [⟨14, _, _⟩]) rfl rfl ?_
        replace hlo : T / n = lo := hlo
        have hmd := dl_small (F := lo) (by omega) (by omega)
        have hmm := dl_mul (n : Int) lo
        refine Tr.seq (Tr.rg ?_); refine mv rfl rfl rfl ?_; refine mv rfl rfl rfl ?_; refine mv rfl rfl rfl ?_
        first | refine tO (ok_idxEN rfl uu rfl uu (fun _ => by omega)) rfl rfl ?_ | refine tO (ok_idxE rfl uu rfl uu (fun _ => by omega)) rfl rfl ?_
        refine TrL.stE rfl rfl rfl rfl rfl ?_; refine TrL.fin (End.nxt (Tr.rg ?_)); refine mv rfl rfl rfl ?_; refine mv rfl rfl rfl ?_; refine mv rfl rfl rfl ?_; refine tO (ok_bslJ eI (fun hp => .cons rfl <| .nil) rfl rfl rfl rfl) rfl rfl ?_; refine tO (ok_call (fun hp => ct_rMul (digN n) [lo] (digN_dg n).inI (in1 (by omega)) (by omega) (by simp)) (.a rfl uu <| .a rfl uu <| .nil)) rfl rfl ?_; refine tO (ok_call (fun hp => ct_rSub (digN T.toNat) _ (digN_dg _).inI (lst_in _) (by omega) (by rw [lst_len, hvn, val_one]; omega)) (.a rfl uu <| .a rfl uu <| .nil)) rfl rfl ?_
        refine mw rfl rfl rfl ?_; refine TrL.fin (End.blk (End.nxt (Tr.rg ?_))); refine mv rfl rfl rfl ?_; refine tO (ok_sub rfl uu rfl uu (fun _ => by omega)) rfl rfl ?_; refine mw rfl rfl rfl ?_; refine TrL.fin ?_
        exact End.lp ((i - 1, o.set (i - 1) ((R * 100000000 + nth (digN m) (i - 1)) / n), (R * 100000000 + nth (digN m) (i - 1)) % n)) ⟨by omega, hs1.next (digN_dg m) (by omega)⟩ (by show i - 1 < i; omega) (Ent.mk (.r rfl (by rw [lst_val, digN_val, Int.toNat_of_nonneg hT, hvn, val_one, ← hlo, dv_dl (by omega), hTe]; exact lst_dig (Int.emod_nonneg _ (by omega))) <| .i rfl (by first | rfl | omega | simp <;> omega | assumption) <| .k rfl rfl <| .k rfl rfl <| .k rfl rfl <| .nil) (.a (by rw [e1, ← hTe, hlo]) (by first | rfl | omega | simp <;> omega | assumption) <| .nil) rfl)
    · intro h4
      replace h4 := Int.not_le.1 (of_decide_eq_false h4)
      refine Tr.exit (Exs.thn (Exs.thn (Exs.here ?_)))
      exact End.cut ((i, o, R)) (by obtain rfl : i = 0 := (by omega); exact hs) (Ent.mk (.r rfl (by first | rfl | omega | simp <;> omega | assumption) <| .i rfl (by first | rfl | omega | simp <;> omega | assumption) <| .k rfl rfl <| .k rfl rfl <| .k rfl rfl <| .nil) (.a (by first | rfl | omega | simp <;> omega | assumption) (by first | rfl | omega | simp <;> omega | assumption) <| .nil) rfl)
  · rintro ⟨i, o, R⟩ hs
    refine End.norm (S' := [⟨7, true, _, _⟩, ⟨8, true, _, _⟩, ⟨0, true, _, _⟩, ⟨1, true, _, _⟩, ⟨6, true, _, _⟩]) (M' := [⟨14, _, _⟩]) rfl rfl ?_
    have hol := hs.len
    refine End.nxt (Tr.seq (Tr.rg ?_)); refine mv rfl rfl rfl ?_; refine TrL.frz 14 [6, 57] ⟨rfl, rfl, trivial⟩ (by simp only [lenMax]; omega) rfl ?_; refine TrL.norm (S' := [⟨_, _, _, _⟩, ⟨_, _, _, _⟩, ⟨_, _, _, _⟩, ⟨_, _, _, _⟩, ⟨_, _, _, _⟩, ⟨_, _, _, _⟩, ⟨_, _, _, _⟩, ⟨_, _, _, _⟩]) rfl rfl ?_; refine tO (ok_call (fun hp => ct_rtrim _ (by omega)) (.a rfl uu <| .nil)) rfl rfl ?_; refine mv rfl rfl rfl ?_; refine mw rfl rfl rfl ?_; refine mw rfl rfl rfl ?_; refine TrL.fin (End.nxt (Tr.ret ?_)); exact Rts.res (fn := Tryz.f123) (ts := [4, 5]) rfl rfl (.r rfl (dv_fin hs).1 <| .r rfl (dv_fin hs).2 <| .nil)

set_option maxRecDepth 100000 in
set_option maxHeartbeats 1000000 in
theorem ct_rDivMod (xs ys : List Int) (hx : InI xs) (hy : InI ys) (hn : xs.length ≤ 200000) (hm : ys.length ≤ 200000) : Ct Tryz.prog 86 [kRd (eL eI) xs, kRd (eL eI) ys] (kTup [kRd (eL eI) (if val ys = 0 then [] else lstZ (val xs / val ys)), kRd (eL eI) (if val ys = 0 then [] else lstZ (val xs % val ys)), kI (if val ys = 0 then 12 else 0)]) := by
  have hdx := dl_val hx
  have hdy := dl_val hy
  have hlx := lst_len (val xs)
  have hly := lst_len (val ys)
  have hl0 := lst_len0 (z := val ys)
  have hrz := digN_len0 (n := (val xs).natAbs % (val ys).natAbs)
  have hdq : dl (((val xs).natAbs / (val ys).natAbs : Nat) : Int) = (digN ((val xs).natAbs / (val ys).natAbs)).length := rfl
  have hdr : dl (((val xs).natAbs % (val ys).natAbs : Nat) : Int) = (digN ((val xs).natAbs % (val ys).natAbs)).length := rfl
  have hdX : (digN (val xs).natAbs).length = dl (val xs) := rfl
  have hdY : (digN (val ys).natAbs).length = dl (val ys) := rfl
  have hql := digN_len_le (m := (val xs).natAbs) (n := (val xs).natAbs / (val ys).natAbs) (Nat.div_le_self _ _)
  have h11 : ([1] : List Int).length = 1 := rfl
  refine Ct.mk Tryz.func86 rfl Tryz.ntmps86 rfl (fun w J => ?_); refine Tr.seq (Tr.rg ?_); refine mw rfl rfl rfl ?_; refine mw rfl rfl rfl ?_; refine mw rfl rfl rfl ?_; refine TrL.fin (End.nxt (Tr.seq (Tr.rg ?_))); refine mv rfl rfl rfl ?_; refine tO (ok_call (fun hp => ct_rNormal _ (by assumption) (by omega)) (.a rfl uu <| .nil)) rfl rfl ?_; refine mv rfl rfl rfl ?_; refine tO (ok_call (fun hp => ct_rNormal _ (by assumption) (by omega)) (.a rfl uu <| .nil)) rfl rfl ?_; refine mw rfl rfl rfl ?_
  refine mw rfl rfl rfl ?_; refine TrL.fin (End.nxt (Tr.seq (Tr.seq (Tr.rg ?_)))); refine mv rfl rfl rfl ?_; refine tO (ok_lenJ rfl uu) rfl rfl ?_; refine tO (ok_eql rfl uu rfl uu) rfl rfl ?_; refine TrL.fin (End.nxt ?_); refine Tr.cnd rfl ?_ ?_
  · intro h2
    replace h2 := of_decide_eq_true h2
    have hy0 : val ys = 0 := by omega
    refine Tr.seq (Tr.rg ?_); refine mw rfl rfl rfl ?_; refine mw rfl rfl rfl ?_; refine mw rfl rfl rfl ?_; refine TrL.fin (End.nxt (Tr.ret (Rts.thn ?_))); exact Rts.res (fn := Tryz.f86) (ts := [4, 5, 6]) rfl rfl (.n rfl (by rw [if_pos hy0]) <| .n rfl (by rw [if_pos hy0]) <| .i rfl (by rw [if_pos hy0]) <| .nil)
  · intro h2
    replace h2 := of_decide_eq_false h2
    have hy0 : val ys ≠ 0 := by omega
    have hlt : (val xs).natAbs % (val ys).natAbs < (val ys).natAbs := Nat.mod_lt _ (by omega)
    have hrl := digN_len_le (m := (val ys).natAbs) (n := (val xs).natAbs % (val ys).natAbs) (by omega)
    refine Tr.skip (End.nxt (Tr.seq (Tr.rg ?_))); refine mv rfl rfl rfl ?_; refine tO (ok_call (fun hp => ct_rsize (val xs) (by omega)) (.a rfl uu <| .nil)) rfl rfl ?_; refine mv rfl rfl rfl ?_; refine tO (ok_call (fun hp => ct_rsize (val ys) (by omega)) (.a rfl uu <| .nil)) rfl rfl ?_; refine tO (ok_call (fun hp => ct_rdivide (val xs).natAbs (val ys).natAbs (by omega) (by omega) (by omega)) (.a rfl uu <| .a rfl uu <| .nil)) rfl rfl ?_; refine mv rfl rfl rfl ?_; refine tO (ok_ext rfl uu rfl) rfl rfl ?_; refine tO (ok_ext rfl uu rfl) rfl rfl ?_
    refine mw rfl rfl rfl ?_; refine mw rfl rfl rfl ?_; refine TrL.fin (End.nxt (Tr.seq (Tr.seq (Tr.rg ?_)))); refine mv rfl rfl rfl ?_; refine tO (ok_call (fun hp => ct_rNegative (val xs)) (.a rfl uu <| .nil)) rfl rfl ?_; refine TrL.fin (End.nxt ?_); refine Tr.cnd rfl ?_ ?_
    · intro h5
      have hxn := of_decide_eq_true h5
      refine Tr.seq (Tr.rg ?_); refine mv rfl rfl rfl ?_; refine tO (ok_call (fun hp => ct_rNeg _ (digN_dg _).inI (by omega)) (.a rfl uu <| .nil)) rfl rfl ?_; refine mv rfl rfl rfl ?_; refine tO (ok_call (fun hp => ct_rNeg _ (digN_dg _).inI (by omega)) (.a rfl uu <| .nil)) rfl rfl ?_; refine mw rfl rfl rfl ?_; refine mw rfl rfl rfl ?_; refine TrL.fin (End.nxt (Tr.seq (Tr.rg ?_))); refine mv rfl rfl rfl ?_; refine tO (ok_lenJ rfl uu) rfl rfl ?_; refine tO (ok_gtr rfl uu rfl uu) rfl rfl ?_; refine TrL.fin (End.nxt ?_)
      refine Tr.cnd rfl ?_ ?_
      · intro h7
        have hrp : 0 < (val xs).natAbs % (val ys).natAbs := by (have h7 := of_decide_eq_true h7; rw [lst_len, digN_val, dl_neg, hdr] at h7; omega)
        obtain ⟨o1, o2⟩ := over_B hy0 hxn hrp
        refine Tr.rg ?_; refine mv rfl rfl rfl ?_; refine tO (ok_bslJ eI (fun hp => .cons rfl <| .nil) rfl rfl rfl rfl) rfl rfl ?_; refine tO (ok_call (fun hp => ct_rSub _ [1] (lst_in _) (in1 (by omega)) (by rw [lst_len, digN_val, dl_neg, hdq]; omega) (by omega)) (.a rfl uu <| .a rfl uu <| .nil)) rfl rfl ?_; refine mv rfl rfl rfl ?_; refine mv rfl rfl rfl ?_; refine tO (ok_call (fun hp => ct_rsize (val ys) (by omega)) (.a rfl uu <| .nil)) rfl rfl ?_; refine tO (ok_call (fun hp => ct_rAdd _ _ (lst_in _) (digN_dg _).inI (by rw [lst_len, digN_val, dl_neg, hdr]; omega) (by omega)) (.a rfl uu <| .a rfl uu <| .nil)) rfl rfl ?_
        refine mw rfl rfl rfl ?_; refine mw rfl rfl rfl ?_; refine TrL.fin (End.nxt (Tr.seq (Tr.seq (Tr.rg ?_)))); refine mv rfl rfl rfl ?_; refine tO (ok_call (fun hp => ct_rNegative (val ys)) (.a rfl uu <| .nil)) rfl rfl ?_; refine TrL.fin (End.nxt ?_); refine Tr.cnd rfl ?_ ?_
        · intro h9
          have hyn := of_decide_eq_true h9
          have hQ1 := dlq1 (q := (val xs).natAbs / (val ys).natAbs)
          have hQ2 := dlq2 (q := (val xs).natAbs / (val ys).natAbs)
          refine Tr.rg ?_; refine mv rfl rfl rfl ?_
          refine tO (ok_call (fun hp => ct_rNeg _ (by first | exact lst_in _ | exact (digN_dg _).inI) (by omega)) (.a rfl uu <| .nil)) rfl rfl ?_
          refine mw rfl rfl rfl ?_; refine TrL.fin (End.nxt (Tr.seq (Tr.rg ?_))); refine mv rfl rfl rfl ?_; refine mv rfl rfl rfl ?_; refine mw rfl rfl rfl ?_; refine mw rfl rfl rfl ?_; refine mw rfl rfl rfl ?_; refine TrL.fin (End.nxt (Tr.ret ?_)); exact Rts.res (fn := Tryz.f86) (ts := [4, 5, 6]) rfl rfl (.r rfl (by rw [if_neg hy0, o1, if_neg (show ¬ sgd (val xs) (val ys) from by rw [sgd_iff]; omega), lst_val, lst_val, val_one, digN_val]; congr 1; omega) <| .r rfl (by rw [if_neg hy0, o2, lst_val, digN_val, digN_val]; congr 1; omega) <| .i rfl (by rw [if_neg hy0]) <| .nil)
        · intro h9
          have hyn := of_decide_eq_false h9
          refine Tr.skip (End.nxt (Tr.seq (Tr.rg ?_))); refine mv rfl rfl rfl ?_; refine mv rfl rfl rfl ?_; refine mw rfl rfl rfl ?_; refine mw rfl rfl rfl ?_; refine mw rfl rfl rfl ?_; refine TrL.fin (End.nxt (Tr.ret ?_)); exact Rts.res (fn := Tryz.f86) (ts := [4, 5, 6]) rfl rfl (.r rfl (by rw [if_neg hy0, o1, if_pos (show sgd (val xs) (val ys) from by rw [sgd_iff]; omega), lst_val, val_one, digN_val]; congr 1; omega) <| .r rfl (by rw [if_neg hy0, o2, lst_val, digN_val, digN_val]; congr 1; omega) <| .i rfl (by rw [if_neg hy0]) <| .nil)
      · intro h7
        have hrp : (val xs).natAbs % (val ys).natAbs = 0 := by (have h7 := of_decide_eq_false h7; rw [lst_len, digN_val, dl_neg, hdr] at h7; omega)
        obtain ⟨o1, o2⟩ := over_A (a := val xs) hy0 (fun hh => by omega)
        refine Tr.skip (End.nxt (Tr.seq (Tr.seq (Tr.rg ?_)))); refine mv rfl rfl rfl ?_; refine tO (ok_call (fun hp => ct_rNegative (val ys)) (.a rfl uu <| .nil)) rfl rfl ?_; refine TrL.fin (End.nxt ?_); refine Tr.cnd rfl ?_ ?_
        · intro h9
          have hyn := of_decide_eq_true h9
          have hQ1 := dlq1 (q := (val xs).natAbs / (val ys).natAbs)
          have hQ2 := dlq2 (q := (val xs).natAbs / (val ys).natAbs)
          refine Tr.rg ?_; refine mv rfl rfl rfl ?_
          refine tO (ok_call (fun hp => ct_rNeg _ (by first | exact lst_in _ | exact (digN_dg _).inI) (by omega)) (.a rfl uu <| .nil)) rfl rfl ?_
          refine mw rfl rfl rfl ?_; refine TrL.fin (End.nxt (Tr.seq (Tr.rg ?_))); refine mv rfl rfl rfl ?_; refine mv rfl rfl rfl ?_; refine mw rfl rfl rfl ?_; refine mw rfl rfl rfl ?_; refine mw rfl rfl rfl ?_; refine TrL.fin (End.nxt (Tr.ret ?_)); exact Rts.res (fn := Tryz.f86) (ts := [4, 5, 6]) rfl rfl (.r rfl (by rw [if_neg hy0, o1, if_neg (show ¬ sgd (val xs) (val ys) from by rw [sgd_iff]; omega), lst_val, digN_val]; congr 1; omega) <| .r rfl (by rw [if_neg hy0, o2, digN_val]; congr 1; omega) <| .i rfl (by rw [if_neg hy0]) <| .nil)
        · intro h9
          have hyn := of_decide_eq_false h9
          refine Tr.skip (End.nxt (Tr.seq (Tr.rg ?_))); refine mv rfl rfl rfl ?_; refine mv rfl rfl rfl ?_; refine mw rfl rfl rfl ?_; refine mw rfl rfl rfl ?_; refine mw rfl rfl rfl ?_; refine TrL.fin (End.nxt (Tr.ret ?_)); exact Rts.res (fn := Tryz.f86) (ts := [4, 5, 6]) rfl rfl (.r rfl (by rw [if_neg hy0, o1, if_pos (show sgd (val xs) (val ys) from by rw [sgd_iff]; omega), digN_val]) <| .r rfl (by rw [if_neg hy0, o2, digN_val]; congr 1; omega) <| .i rfl (by rw [if_neg hy0]) <| .nil)
    · intro h5
      have hxn := of_decide_eq_false h5
      obtain ⟨o1, o2⟩ := over_A hy0 (fun hh => hxn hh.1)
      refine Tr.skip (End.nxt (Tr.seq (Tr.seq (Tr.rg ?_)))); refine mv rfl rfl rfl ?_; refine tO (ok_call (fun hp => ct_rNegative (val ys)) (.a rfl uu <| .nil)) rfl rfl ?_; refine TrL.fin (End.nxt ?_); refine Tr.cnd rfl ?_ ?_
      · intro h9
        have hyn := of_decide_eq_true h9
        have hQ1 := dlq1 (q := (val xs).natAbs / (val ys).natAbs)
        have hQ2 := dlq2 (q := (val xs).natAbs / (val ys).natAbs)
        refine Tr.rg ?_; refine mv rfl rfl rfl ?_
        refine tO (ok_call (fun hp => ct_rNeg _ (by first | exact lst_in _ | exact (digN_dg _).inI) (by omega)) (.a rfl uu <| .nil)) rfl rfl ?_
        refine mw rfl rfl rfl ?_; refine TrL.fin (End.nxt (Tr.seq (Tr.rg ?_))); refine mv rfl rfl rfl ?_; refine mv rfl rfl rfl ?_; refine mw rfl rfl rfl ?_; refine mw rfl rfl rfl ?_; refine mw rfl rfl rfl ?_; refine TrL.fin (End.nxt (Tr.ret ?_)); exact Rts.res (fn := Tryz.f86) (ts := [4, 5, 6]) rfl rfl (.r rfl (by rw [if_neg hy0, o1, if_pos (show sgd (val xs) (val ys) from by rw [sgd_iff]; omega), digN_val]) <| .r rfl (by rw [if_neg hy0, o2, lst_nat]) <| .i rfl (by rw [if_neg hy0]) <| .nil)
      · intro h9
        have hyn := of_decide_eq_false h9
        refine Tr.skip (End.nxt (Tr.seq (Tr.rg ?_))); refine mv rfl rfl rfl ?_; refine mv rfl rfl rfl ?_; refine mw rfl rfl rfl ?_; refine mw rfl rfl rfl ?_; refine mw rfl rfl rfl ?_; refine TrL.fin (End.nxt (Tr.ret ?_)); exact Rts.res (fn := Tryz.f86) (ts := [4, 5, 6]) rfl rfl (.r rfl (by rw [if_neg hy0, o1, if_neg (show ¬ sgd (val xs) (val ys) from by rw [sgd_iff]; omega), lst_nat]) <| .r rfl (by rw [if_neg hy0, o2, lst_nat]) <| .i rfl (by rw [if_neg hy0]) <| .nil)

set_option maxRecDepth 100000 in
theorem ct_rGcd (xs ys : List Int) (hx : InI xs) (hy : InI ys) (hn : xs.length ≤ 200000) (hm : ys.length ≤ 200000) : Ct Tryz.prog 83 [kRd (eL eI) xs, kRd (eL eI) ys] (kRd (eL eI) (digN (Nat.gcd (val xs).natAbs (val ys).natAbs))) := by
  have hdx := dl_val hx
  have hdy := dl_val hy
  have hlx := lst_len (val xs)
  have hly := lst_len (val ys)
  have hdX : (digN (val xs).natAbs).length = dl (val xs) := rfl
  have hdY : (digN (val ys).natAbs).length = dl (val ys) := rfl
  refine Ct.mk Tryz.func83 rfl Tryz.ntmps83 rfl (fun w J => ?_); refine Tr.seq (Tr.rg ?_); refine mw rfl rfl rfl ?_; refine TrL.fin (End.nxt (Tr.seq (Tr.rg ?_))); refine mv rfl rfl rfl ?_; refine tO (ok_call (fun hp => ct_rNormal _ (by assumption) (by omega)) (.a rfl uu <| .nil)) rfl rfl ?_; refine tO (ok_call (fun hp => ct_rsize (val xs) (by omega)) (.a rfl uu <| .nil)) rfl rfl ?_; refine mv rfl rfl rfl ?_; refine tO (ok_call (fun hp => ct_rNormal _ (by assumption) (by omega)) (.a rfl uu <| .nil)) rfl rfl ?_; refine tO (ok_call (fun hp => ct_rsize (val ys) (by omega)) (.a rfl uu <| .nil)) rfl rfl ?_
  refine mw rfl rfl rfl ?_; refine mw rfl rfl rfl ?_; refine TrL.fin (End.nxt ?_); refine Tr.for (σ := Nat × Nat) [] [] (fun (x, y) => [⟨5, true, [], kRd (eL eI) (digN x)⟩, ⟨6, true, [], kRd (eL eI) (digN y)⟩]) (fun (x, y) => []) (fun (x, y) => (digN x).length ≤ 300000 ∧ (digN y).length ≤ 300000 ∧ Nat.gcd x y = Nat.gcd (val xs).natAbs (val ys).natAbs) (fun (x, y) => y = 0 ∧ Nat.gcd x y = Nat.gcd (val xs).natAbs (val ys).natAbs) (fun (x, y) => y) (((val xs).natAbs, (val ys).natAbs)) ⟨by omega, by omega, rfl⟩ (Ent.mk (.r rfl rfl <| .r rfl rfl <| .nil) (.nil) rfl) ?_ ?_
  · rintro ⟨x, y⟩ ⟨hx1, hy1, hg⟩
    refine Tr.norm (S' := [⟨5, true, _, _⟩, ⟨6, true, _, _⟩]) (M' := []) rfl rfl ?_
    have hy0 := digN_len0 (n := y)
    refine Tr.seq (Tr.seq (Tr.rg ?_)); refine mv rfl rfl rfl ?_; refine tO (ok_lenJ rfl uu) rfl rfl ?_; refine tO (ok_gtr rfl uu rfl uu) rfl rfl ?_; refine TrL.fin (End.nxt ?_); refine Tr.cnd rfl ?_ ?_
    · intro h2
      replace h2 := of_decide_eq_true h2
      refine Tr.skip (End.nxt (Tr.blk (Tr.seq (Tr.rg ?_)))); refine mv rfl rfl rfl ?_; refine mv rfl rfl rfl ?_; refine tO (ok_call (fun hp => ct_rdivide x y (by omega) (by omega) (by omega)) (.a rfl uu <| .a rfl uu <| .nil)) rfl rfl ?_; refine mv rfl rfl rfl ?_; refine tO (ok_ext rfl uu rfl) rfl rfl ?_; refine tO (ok_ext rfl uu rfl) rfl rfl ?_; refine mw rfl rfl rfl ?_; refine mw rfl rfl rfl ?_; refine TrL.fin (End.nxt (Tr.rg ?_)); refine mv rfl rfl rfl ?_; refine mv rfl rfl rfl ?_
      refine mw rfl rfl rfl ?_; refine mw rfl rfl rfl ?_; refine TrL.fin (End.blk ?_); exact End.lp ((y, x % y)) ⟨hy1, by have := digN_len_le (m := y) (n := x % y) (Nat.le_of_lt (Nat.mod_lt _ (by omega))); omega, by rw [gcd_step]; exact hg⟩ (by show x % y < y; exact Nat.mod_lt _ (by omega)) (Ent.mk (.r rfl rfl <| .r rfl rfl <| .nil) (.nil) rfl)
    · intro h2
      replace h2 := Int.not_lt.1 (of_decide_eq_false h2)
      refine Tr.exit (Exs.thn (Exs.thn (Exs.here ?_)))
      exact End.cut ((x, y)) ⟨by omega, hg⟩ (Ent.mk (.r rfl (by first | rfl | omega | simp <;> omega | assumption) <| .r rfl (by first | rfl | omega | simp <;> omega | assumption) <| .nil) (.nil) rfl)
  · rintro ⟨x, y⟩ ⟨rfl, hg⟩
    refine Tr.norm (S' := [⟨5, true, _, _⟩, ⟨6, true, _, _⟩]) (M' := []) rfl rfl ?_; refine Tr.seq (Tr.rg ?_); refine mv rfl rfl rfl ?_; refine mw rfl rfl rfl ?_; refine TrL.fin (End.nxt (Tr.ret ?_)); exact Rts.res1 (fn := Tryz.f83) rfl (.r rfl (by rw [← hg, Nat.gcd_zero_right]) <| .nil)

end Go.Fl

/- Contracts: numbers of a field in lowest terms. -/
namespace Go.Fl
open Go Go.Proofs
open TrL renaming op → tO
open RunD renaming op → rO

set_option maxRecDepth 100000 in
theorem ct_fcommon (a b : Int) (ha : dl a ≤ 800000) (hb : dl b ≤ 800000) : Ct Tryz.prog 197 [kRd eW (wh a), kRd eW (wh b)] (kRd eW (wh (Int.gcd a b))) := by
  refine Ct.mk Tryz.func197 rfl Tryz.ntmps197 rfl (fun w J => ?_); refine Tr.seq (Tr.rg ?_); refine TrL.new (ok_box 2 rfl uu rfl) rfl rfl rfl rfl ?_; refine TrL.new (ok_box 3 rfl uu rfl) rfl rfl rfl rfl ?_; refine TrL.new (ok_alloc 4) rfl rfl rfl rfl ?_; refine TrL.fin (End.nxt ?_); refine Tr.for (σ := Int × Int) [⟨2, true, _, _⟩, ⟨3, true, _, _⟩, ⟨4, true, _, _⟩] [⟨4, _, _⟩] (fun ⟨x, y⟩ => []) (fun ⟨x, y⟩ => [⟨2, [], cBlk [kB (decide (x < 0)), kRd (eL eI) (digN (x).natAbs)]⟩, ⟨3, [], cBlk [kB (decide (y < 0)), kRd (eL eI) (digN (y).natAbs)]⟩]) (fun ⟨x, y⟩ => Int.gcd x y = Int.gcd a b ∧ dl x ≤ 800000 ∧ dl y ≤ 800000) (fun ⟨x, y⟩ => x.natAbs = Int.gcd a b) (fun ⟨x, y⟩ => y.natAbs) ((a, b)) ⟨rfl, ha, hb⟩ (Ent.mk (.k rfl rfl <| .k rfl rfl <| .k rfl rfl <| .nil) (.k rfl <| .k rfl <| .k rfl <| .nil) rfl) ?_ ?_
  · rintro ⟨x, y⟩ ⟨hg, hx, hy⟩
    refine Tr.norm (S' := [⟨2, true, _, _⟩, ⟨3, true, _, _⟩, ⟨4, true, _, _⟩]) (M' := [⟨2, _, _⟩, ⟨3, _, _⟩, ⟨4, _, _⟩]) rfl rfl ?_; refine Tr.seq (Tr.seq (Tr.rg ?_)); refine tO (ok_ldBS rfl uu) rfl rfl ?_; refine tO (ok_call (fun hp => ct_wsign y) (.se rfl uu rfl rfl <| .nil)) rfl rfl ?_; refine tO (ok_neq rfl uu rfl uu) rfl rfl ?_; refine TrL.fin (End.nxt ?_); refine Tr.cnd rfl ?_ ?_
    · intro h1
      replace h1 := of_decide_eq_true h1
      have hy0 : y ≠ 0 := fun e => h1 (cmpZ_z.2 e)
      refine Tr.skip (End.nxt (Tr.blk (Tr.seq (Tr.rg ?_)))); refine tO (ok_ldBS rfl uu) rfl rfl ?_; refine tO (ok_ldBS rfl uu) rfl rfl ?_; refine tO (ok_call (fun hp => ct_wover x y hy0 (by omega) (by omega)) (.se rfl uu rfl rfl <| .se rfl uu rfl rfl <| .nil)) rfl rfl ?_; refine mv rfl rfl rfl ?_; refine tO (ok_ext rfl uu rfl) rfl rfl ?_; refine tO (ok_ext rfl uu rfl) rfl rfl ?_; refine TrL.new (ok_alloc 5) rfl rfl rfl rfl ?_; refine TrL.new (ok_alloc 6) rfl rfl rfl rfl ?_; refine TrL.stB rfl rfl rfl rfl ?_; refine TrL.stB rfl rfl rfl rfl ?_; refine TrL.fin (End.nxt ?_)
      refine Tr.drawS 2 2 mixed (by kernel_rfl) ?_; refine RunS.opA (ok_ldBS rfl uu) (by kernel_rfl) rfl rfl ?_; refine RunS.op (ok_ldBS rfl uu) rfl rfl ?_; refine RunS.z (st_B rfl rfl rfl) rfl rfl rfl ?_; refine TrL.stB rfl rfl rfl rfl ?_; refine TrL.fin (End.blk ?_); exact End.lp ((y, x % y)) ⟨(gcd_stepZ (x := x) (y := y)).trans hg, hy, by have := dl_mod (x := x) hy0; omega⟩ (by have h2 := Int.emod_nonneg x hy0; have h3 := Int.emod_lt x hy0; show (x % y).natAbs < y.natAbs; omega) (Ent.mk (.k rfl rfl <| .k rfl rfl <| .k rfl rfl <| .nil) (.k rfl <| .k rfl <| .k rfl <| .nil) rfl)
    · intro h1
      replace h1 := Classical.not_not.1 (of_decide_eq_false h1)
      refine Tr.exit (Exs.thn (Exs.thn (Exs.here ?_))); exact End.cut ((x, y)) (by have e := cmpZ_z.1 h1; subst e; rw [← hg]; simp) (Ent.mk (.k rfl rfl <| .k rfl rfl <| .k rfl rfl <| .nil) (.k rfl <| .k rfl <| .k rfl <| .nil) rfl)
  · rintro ⟨x, y⟩ hE
    refine Tr.norm (S' := [⟨2, true, _, _⟩, ⟨3, true, _, _⟩, ⟨4, true, _, _⟩]) (M' := [⟨2, _, _⟩, ⟨3, _, _⟩, ⟨4, _, _⟩]) rfl rfl ?_; refine Tr.seq (Tr.rg ?_); refine tO (ok_fldO rfl uu) rfl rfl ?_; refine TrL.stB rfl rfl rfl rfl ?_; refine TrL.fin (End.nxt (Tr.seq (Tr.rg ?_))); refine tO (ok_ldBS rfl uu) rfl rfl ?_; refine TrL.stB rfl rfl rfl rfl ?_; refine TrL.fin (End.nxt (Tr.ret ?_)); exact Rts.resC1 (fn := Tryz.f197) rfl rfl (aggRd rfl (by rw [← hE]; exact (wh_nat (n := x.natAbs))))

set_option maxRecDepth 100000 in
theorem ct_nlowest (c : List Int) (d : Int) (hc : ∀ i, dl (nth c i) ≤ 700000) (hd : dl d ≤ 700000) (hp : 0 < d) : Ct Tryz.prog 163 [kRd eNu (c, d)] (kRd eNu (loN c d)) := by
  refine Ct.mk Tryz.func163 rfl Tryz.ntmps163 rfl (fun w J => ?_); refine Tr.fact (s := 0) rfl (fun _ _ h => eNu_len h) (fun hl => ?_)
  have hl : c.length = 4 := hl
  have hG := dl_gL (c := c) hp
  have hGp := gL_pos (cs := c) (g := d.natAbs) (by omega)
  refine Tr.seq (Tr.rg ?_); refine TrL.new (ok_box 1 rfl uu rfl) rfl rfl rfl rfl ?_; refine TrL.new (ok_alloc 2) rfl rfl rfl rfl ?_; refine TrL.fin (End.nxt (Tr.seq (Tr.rg ?_))); refine tO (ok_fldO rfl uu) rfl rfl ?_; refine tO (ok_ldBS rfl uu) rfl rfl ?_; refine TrL.new (ok_alloc 3) rfl rfl rfl rfl ?_; refine TrL.stB rfl rfl rfl rfl ?_; refine TrL.fin (End.nxt (Tr.seq (Tr.seq (Tr.rg ?_)))); refine tO (ok_fldO rfl uu) rfl rfl ?_; refine tO (ok_ldBS rfl uu) rfl rfl ?_; refine mv rfl rfl rfl ?_; refine TrL.fin (End.nxt ?_)
  refine Tr.for1 (σ := Nat) [⟨1, true, _, _⟩, ⟨2, true, _, _⟩, ⟨3, true, _, _⟩, ⟨11, true, _, _⟩] [⟨1, _, _⟩, ⟨2, _, _⟩] (fun k => [⟨12, true, [], kI (k : Int)⟩]) (fun k => [⟨3, [], cBlk [kB (decide ((gL d.natAbs (c.take k) : Int) < 0)), kRd (eL eI) (digN ((gL d.natAbs (c.take k) : Int)).natAbs)]⟩]) (fun k => k ≤ 4) (fun k => k = 4) (fun k => 4 - k) (0) (by first | rfl | omega | simp <;> omega | assumption) (Ent.mk (.i rfl (by first | rfl | omega | simp <;> omega | assumption) <| .k rfl rfl <| .k rfl rfl <| .k rfl rfl <| .k rfl rfl <| .nil) (.conv (cB_eq (dcell (by rw [List.take_zero]; show d = (d.natAbs : Int); omega))) rfl <| .k rfl <| .k rfl <| .nil) rfl) ?_ ?_
  · intro k hR0
    refine Tr.norm (S' := [⟨12, true, _, _⟩, ⟨1, true, _, _⟩, ⟨2, true, _, _⟩, ⟨3, true, _, _⟩, ⟨11, true, _, _⟩]) (M' := [⟨3, _, _⟩, ⟨1, _, _⟩, ⟨2, _, _⟩]) rfl rfl ?_
    have hgk := dl_gL (c := c.take k) hp
    have hck := hc k
    refine Tr.seq (Tr.rg ?_); refine tO (ok_lss rfl uu rfl uu) rfl rfl ?_; refine TrL.fin (End.nxt (Tr.seq ?_)); refine Tr.cnd rfl ?_ ?_
    · intro h3
      replace h3 := of_decide_eq_true h3
      refine Tr.skip (End.nxt (Tr.seq (Tr.blk (Tr.seq (Tr.rg ?_))))); refine tO (ok_idxW rfl uu rfl uu (fun _ => by omega)) rfl rfl ?_; refine TrL.new (ok_alloc 5) rfl rfl rfl rfl ?_; refine TrL.stB rfl rfl rfl rfl ?_; refine TrL.fin (End.nxt (Tr.rg ?_)); refine tO (ok_ldBS rfl uu) rfl rfl ?_; refine tO (ok_ldBS rfl uu) rfl rfl ?_; refine tO (ok_call (fun hp => ct_fcommon (gL d.natAbs (c.take k) : Int) (nth c k) (by omega) (by omega)) (.se rfl uu rfl rfl <| .se rfl uu rfl rfl <| .nil)) rfl rfl ?_; refine TrL.stB rfl rfl rfl rfl ?_; refine TrL.fin (End.blk (End.nxt (Tr.rg ?_))); refine tO (ok_add rfl uu rfl uu (fun _ => by omega)) rfl rfl ?_
      refine mv rfl rfl rfl ?_; refine TrL.fin ?_
      exact End.lp (k + 1) (by first | rfl | omega | simp <;> omega | assumption) (by omega) (Ent.mk (.i rfl (by first | rfl | omega | simp <;> omega | assumption) <| .k rfl rfl <| .k rfl rfl <| .k rfl rfl <| .k rfl rfl <| .nil) (.conv (cB_eq (dcell (gL_take (by omega)).symm)) rfl <| .k rfl <| .k rfl <| .nil) rfl)
    · intro h3
      replace h3 := Int.not_lt.1 (of_decide_eq_false h3)
      refine Tr.exit (Exs.thn (Exs.thn (Exs.here ?_)))
      exact End.cut (k) (by omega) (Ent.mk (.i rfl (by first | rfl | omega | simp <;> omega | assumption) <| .k rfl rfl <| .k rfl rfl <| .k rfl rfl <| .k rfl rfl <| .nil) (.k rfl <| .k rfl <| .k rfl <| .nil) rfl)
  · rintro _ rfl
    refine End.norm (S' := [⟨12, true, _, _⟩, ⟨1, true, _, _⟩, ⟨2, true, _, _⟩, ⟨3, true, _, _⟩, ⟨11, true, _, _⟩]) (M' := [⟨3, _, _⟩, ⟨1, _, _⟩, ⟨2, _, _⟩]) rfl rfl ?_
    rw [List.take_of_length_le (by omega)]
    refine End.nxt (Tr.seq (Tr.seq (Tr.rg ?_))); refine tO (ok_fldO rfl uu) rfl rfl ?_; refine tO (ok_ldBS rfl uu) rfl rfl ?_; refine mv rfl rfl rfl ?_; refine TrL.fin (End.nxt ?_)
    refine Tr.for1 (σ := Nat) [⟨1, true, _, _⟩, ⟨2, true, _, _⟩, ⟨3, true, _, _⟩, ⟨20, true, _, _⟩] [⟨2, _, _⟩, ⟨3, _, _⟩] (fun k => [⟨21, true, [], kI (k : Int)⟩]) (fun k => [⟨1, [], cBlk (wC (fun i => if i < k then nth c i / (gL d.natAbs c : Int) else nth c i) 0 4 ++ [kB (decide (d < 0)), kRd (eL eI) (digN (d).natAbs)])⟩]) (fun k => k ≤ 4) (fun k => k = 4) (fun k => 4 - k) (0) (by first | rfl | omega | simp <;> omega | assumption) (Ent.mk (.i rfl (by first | rfl | omega | simp <;> omega | assumption) <| .k rfl rfl <| .k rfl rfl <| .k rfl rfl <| .k rfl rfl <| .nil) (.conv (cW (fun j _ => (if_neg (by omega)).symm) rfl) rfl <| .k rfl <| .k rfl <| .nil) rfl) ?_ ?_
    · intro k hR1
      refine Tr.norm (S' := [⟨21, true, _, _⟩, ⟨1, true, _, _⟩, ⟨2, true, _, _⟩, ⟨3, true, _, _⟩, ⟨20, true, _, _⟩]) (M' := [⟨1, _, _⟩, ⟨2, _, _⟩, ⟨3, _, _⟩]) rfl rfl ?_
      have hck := hc k
      have hgk : k < 4 → (if k < k then nth c k / (gL d.natAbs c : Int) else nth c k) = nth c k := fun _ => if_neg (by omega)
      refine Tr.seq (Tr.rg ?_); refine tO (ok_lss rfl uu rfl uu) rfl rfl ?_; refine TrL.fin (End.nxt (Tr.seq ?_)); refine Tr.cnd rfl ?_ ?_
      · intro h8
        replace h8 := of_decide_eq_true h8
        refine Tr.skip (End.nxt (Tr.seq (Tr.blk (Tr.seq (Tr.rg ?_))))); refine mv rfl rfl rfl ?_; refine tO (ok_idxW rfl uu rfl uu (fun _ => by omega)) rfl rfl ?_; refine TrL.new (ok_alloc 7) rfl rfl rfl rfl ?_; refine mw rfl rfl rfl ?_; refine TrL.stB rfl rfl rfl rfl ?_; refine TrL.fin (End.nxt (Tr.rg ?_)); refine mv rfl rfl rfl ?_; refine tO (ok_ldBS rfl uu) rfl rfl ?_; refine tO (ok_ldBS rfl uu) rfl rfl ?_; refine tO (ok_call (fun hp => ct_wover (nth c k) (gL d.natAbs c : Int) (by omega) (by omega) (by omega)) (.se rfl uu rfl rfl <| .se rfl uu rfl rfl <| .nil)) rfl rfl ?_
        refine mv rfl rfl rfl ?_; refine tO (ok_ext rfl uu rfl) rfl rfl ?_; refine tO (ok_ext rfl uu rfl) rfl rfl ?_; refine tO (ok_fldO rfl uu) rfl rfl ?_; refine tO (ok_idxArrO rfl uu rfl uu (fun _ => by omega)) rfl rfl ?_; refine TrL.stW (k) (by omega) (by omega) rfl rfl rfl ?_; refine TrL.fin (End.blk (End.nxt (Tr.rg ?_))); refine tO (ok_add rfl uu rfl uu (fun _ => by omega)) rfl rfl ?_; refine mv rfl rfl rfl ?_; refine TrL.fin ?_
        exact End.lp (k + 1) (by first | rfl | omega | simp <;> omega | assumption) (by omega) (Ent.mk (.i rfl (by first | rfl | omega | simp <;> omega | assumption) <| .k rfl rfl <| .k rfl rfl <| .k rfl rfl <| .k rfl rfl <| .nil) (.conv (cW (fun j _ => by simp only [upd]; by_cases e : j = k; (rw [if_pos e, if_pos (by omega), e]); (rw [if_neg e]; by_cases e2 : j < k; (rw [if_pos e2, if_pos (by omega)]); (rw [if_neg e2, if_neg (by omega)]))) rfl) rfl <| .k rfl <| .k rfl <| .nil) rfl)
      · intro h8
        replace h8 := Int.not_lt.1 (of_decide_eq_false h8)
        refine Tr.exit (Exs.thn (Exs.thn (Exs.here ?_)))
        exact End.cut (k) (by omega) (Ent.mk (.i rfl (by first | rfl | omega | simp <;> omega | assumption) <| .k rfl rfl <| .k rfl rfl <| .k rfl rfl <| .k rfl rfl <| .nil) (.k rfl <| .k rfl <| .k rfl <| .nil) rfl)
    · rintro _ rfl
      refine End.norm (S' := [⟨21, true, _, _⟩, ⟨1, true, _, _⟩, ⟨2, true, _, _⟩, ⟨3, true, _, _⟩, ⟨20, true, _, _⟩]) (M' := [⟨1, _, _⟩, ⟨2, _, _⟩, ⟨3, _, _⟩]) rfl rfl ?_; refine End.nxt (Tr.seq (Tr.rg ?_)); refine tO (ok_fldO rfl uu) rfl rfl ?_; refine tO (ok_ldBS rfl uu) rfl rfl ?_; refine tO (ok_ldBS rfl uu) rfl rfl ?_; refine tO (ok_call (fun hp => ct_wover d (gL d.natAbs c : Int) (by omega) (by omega) (by omega)) (.se rfl uu rfl rfl <| .se rfl uu rfl rfl <| .nil)) rfl rfl ?_; refine mv rfl rfl rfl ?_; refine tO (ok_ext rfl uu rfl) rfl rfl ?_; refine tO (ok_ext rfl uu rfl) rfl rfl ?_
      refine tO (ok_fldO rfl uu) rfl rfl ?_; refine TrL.stB rfl rfl rfl rfl ?_; refine TrL.fin (End.nxt (Tr.seq (Tr.rg ?_))); refine tO (ok_ldBS rfl uu) rfl rfl ?_; refine TrL.stB rfl rfl rfl rfl ?_; refine TrL.fin (End.nxt (Tr.ret ?_)); exact Rts.resC1 (fn := Tryz.f163) rfl rfl (aggRd rfl (by rw [← low_tab hp hl]; exact Prod.ext (tab_congr fun i hi => if_pos hi) rfl))

end Go.Fl

/- Pointers against nil. No program in sight. -/
namespace Go.Fl
open Go Go.RowKit
section
variable {P : Program} {c : Ctx} {S : Slots} {M : Conts} {p : Bool} {d : Option Tmp} {ty : TypeId} {pos : String} {af : Array Edge} {gd : Option (Nat × Bool)} {x y : Operand} {b b' : Bool}
class TyPtr (P : Program) (t : TypeId) : Prop where
  h : ∃ e, P.underlying t = some (.pointer e)
theorem ok_eqlPn {t t' : TypeId} [ht : TyPtr P t] {α : Type} {e : Enc α} {v : α} (hx : opK S x = some (b, kPtr e v)) (hb : p = true → b = true) : OpOk P c S M ⟨d, .binOp .eql t x (.const (.pointer none)) t', ty, pos, af, gd⟩ p (kB false) none :=
  OpOk.pure fun hp a g w _ _ ho => by
    obtain ⟨bl, o, ds, h1, _⟩ := ho x (by simp [Op.operands]) b _ hx (hb hp)
    have he : a.eval (.const (.pointer none)) = .pointer none := rfl
    obtain ⟨ee, hh⟩ := ht.h
    refine ⟨.bool false, ?_, rfl⟩
    simp only [execOp, h1, he]
    simp [go_sem, hh]
end
end Go.Fl

/- Reduction modulo the polynomial of a field, as the program reckons it: in place. No program in sight. -/
namespace Go.Fl
open Go
def stpK (p ys : List Int) (n i k : Nat) : List Int := tab ys.length fun j => if i - n ≤ j ∧ j < i - n + k then nth ys j - nth ys i * nth p (j - (i - n)) else nth ys j
theorem stpK_len {p ys : List Int} {n i k : Nat} : (stpK p ys n i k).length = ys.length := tab_len
theorem stpK_zero {p ys : List Int} {n i : Nat} : ys = stpK p ys n i 0 := by
  conv => lhs; rw [tab_nth (rfl : ys.length = ys.length)]
  exact tab_congr fun j _ => (if_neg (by omega)).symm
theorem stpK_out {p ys : List Int} {n i k j : Nat} (hj : j < ys.length) (h : j < i - n ∨ i - n + k ≤ j) : nth (stpK p ys n i k) j = nth ys j := by
  unfold stpK
  rw [nth_tab hj, if_neg (by omega)]
theorem stpK_succ {p ys : List Int} {n i k : Nat} (_ : k < n) (hn : n ≤ i) (_ : i < ys.length) : (stpK p ys n i k).set (i - n + k) (nth ys (i - n + k) + -(nth ys i * nth p k)) = stpK p ys n i (k + 1) := by
  unfold stpK
  rw [tab_set]
  refine tab_congr fun j hj => ?_
  by_cases e : j = i - n + k
  · subst e
    rw [if_pos rfl, if_pos ⟨by omega, by omega⟩, Nat.add_sub_cancel_left]; omega
  · rw [if_neg e]
    by_cases h : i - n ≤ j ∧ j < i - n + k
    · rw [if_pos h, if_pos ⟨h.1, by omega⟩]
    · rw [if_neg h, if_neg (by omega)]
theorem nth_take' {xs : List Int} {i k : Nat} (h : i < k) : nth (xs.take k) i = nth xs i := by
  simp [nth, List.getD, h]
theorem stpK_take {p ys : List Int} {n i : Nat} (hn : n ≤ i) (hi : i < ys.length) : (stpK p ys n i n).take i = red1 p n (ys.take (i + 1)) := by
  have hl : (ys.take (i + 1)).length = i + 1 := by rw [List.length_take]; omega
  have e1 : ((stpK p ys n i n).take i).length = i := by rw [List.length_take, stpK_len]; omega
  rw [tab_nth e1]
  unfold red1
  rw [hl, Nat.add_sub_cancel]
  refine tab_congr fun j hj => ?_
  rw [nth_take' hj, nth_take' (by omega), nth_take' (by omega)]
  unfold stpK
  rw [nth_tab (by omega)]
  by_cases h : i - n ≤ j
  · rw [if_pos ⟨h, by omega⟩, if_pos h]
  · rw [if_neg (by omega), if_neg h, Int.sub_zero]
theorem red_red1 {p xs : List Int} {n : Nat} (hp : p.length - 1 = n) (h : n < xs.length) : red p (red1 p n xs) = red p xs := by
  unfold red
  rw [hp, red1_len]
  obtain ⟨f, hf⟩ : ∃ f, xs.length - n = f + 1 := ⟨xs.length - n - 1, by omega⟩
  rw [hf, show xs.length - 1 - n = f by omega]
  conv => rhs; rw [redF, if_neg (by omega)]
theorem red_short {p xs : List Int} {n : Nat} (hp : p.length - 1 = n) (h : xs.length ≤ n) : red p xs = xs ++ List.replicate (n - xs.length) 0 := by
  unfold red
  rw [hp, show xs.length - n = 0 by omega, redF]
theorem red_round {p ys : List Int} {n m : Nat} (hp : p.length - 1 = n) (hm : n < m) (hl : m ≤ ys.length) : red p ((stpK p ys n (m - 1) n).take (m - 1)) = red p (ys.take m) := by
  rw [stpK_take (by omega) (by omega), show m - 1 + 1 = m by omega]
  exact red_red1 hp (by rw [List.length_take]; omega)
theorem dl_step {a b q : Int} {A B : Nat} (ha : dl a ≤ A) (hb : dl b ≤ B) (hq : dl q ≤ 1) : dl (a + -(b * q)) ≤ max A (B + 1) + 1 := by
  have h1 := dl_add a (-(b * q))
  rw [dl_neg] at h1
  have h2 := dl_mul b q
  omega
theorem stpK_dl {p ys : List Int} {n i k B : Nat} (_ : n ≤ i) (_ : i < ys.length) (hy : ∀ j, dl (nth ys j) ≤ B) (hp : ∀ j, dl (nth p j) ≤ 1) (j : Nat) : dl (nth (stpK p ys n i k) j) ≤ B + 2 := by
  by_cases hj : j < ys.length
  · unfold stpK
    rw [nth_tab hj]
    split
    · rw [Int.sub_eq_add_neg]
      have := dl_step (hy j) (hy i) (hp (j - (i - n)))
      omega
    · have := hy j; omega
  · have : nth (stpK p ys n i k) j = 0 := by simp [nth, List.getD, List.getElem?_eq_none (show (stpK p ys n i k).length ≤ j by rw [stpK_len]; omega)]
    rw [this]
    have : dl 0 = 0 := dl_zero.2 rfl
    omega
def pad (p xs : List Int) : List Int := tab 4 (nth (red p xs))
theorem pad_len {p xs : List Int} : (pad p xs).length = 4 := tab_len
theorem nth_pad {p xs : List Int} {i : Nat} (h : i < 4) : nth (pad p xs) i = nth (red p xs) i := nth_tab h
theorem nth_app0 {xs : List Int} {k i : Nat} : nth (xs ++ List.replicate k 0) i = if i < xs.length then nth xs i else 0 := by
  split
  · rename_i h; simp [nth, List.getD, List.getElem?_append_left h]
  · rename_i h
    simp only [nth, List.getD, List.getElem?_append_right (Nat.le_of_not_lt h), List.getElem?_replicate]
    split <;> rfl
theorem low_neg {xs : List Int} {d : Int} (hd : d ≠ 0) : loN (xs.map fun c => -c) (-d) = loN xs d := by
  have := low_scale (cs := xs) (d := d) (m := -1) hd (by decide)
  rw [← this]
  congr 1
  · exact List.map_congr_left fun c _ => by omega
  · omega
theorem dl_red {p xs : List Int} {ys : List Int} {n m B : Nat} (hp : p.length - 1 = n) (hm : m ≤ n) (hl : m ≤ ys.length) (he : red p (ys.take m) = red p xs) (hy : ∀ j, dl (nth ys j) ≤ B) (i : Nat) : nth (red p xs) i = (if i < m then nth ys i else 0) ∧ dl (nth (red p xs) i) ≤ B := by
  have hlen : (ys.take m).length = m := by rw [List.length_take]; omega
  rw [← he, red_short hp (by omega), nth_app0, hlen]
  split
  · rename_i h; rw [nth_take' h]; exact ⟨rfl, hy i⟩
  · exact ⟨rfl, by rw [dl_zero.2 rfl]; omega⟩
theorem dl_tab {F : Nat → Int} {k B : Nat} (h : ∀ i, i < k → dl (F i) ≤ B) (i : Nat) : dl (nth (tab k F) i) ≤ B := by
  by_cases hi : i < k
  · rw [nth_tab hi]; exact h i hi
  · have : nth (tab k F) i = 0 := by simp [nth, List.getD, List.getElem?_eq_none (show (tab k F).length ≤ i by rw [tab_len]; omega)]
    rw [this, dl_zero.2 rfl]; omega
theorem neg_tab {c : List Int} {k : Nat} (hl : c.length = k) : (c.map fun z => -z) = tab k fun i => -nth c i := by
  conv => lhs; rw [tab_nth hl]
  simp [tab]
theorem eta4 {v : List Int × Int} (h : v.1.length = 4) : (tab 4 (nth v.1), v.2) = v := Prod.ext (tab_nth h).symm rfl
def adV (x y : List Int × Int) : List Int × Int := loN (tab 4 fun i => nth x.1 i * y.2 + nth y.1 i * x.2) (x.2 * y.2)
theorem dl_adV {x y : List Int × Int} {A : Nat} (hx : ∀ i, dl (nth x.1 i) ≤ A) (hy : ∀ i, dl (nth y.1 i) ≤ A) (hdx : dl x.2 ≤ A) (hdy : dl y.2 ≤ A) (i : Nat) : dl (nth x.1 i * y.2 + nth y.1 i * x.2) ≤ 2 * A + 1 := by
  have h1 := hx i
  have h2 := hy i
  have h3 := dl_mul (nth x.1 i) y.2
  have h4 := dl_mul (nth y.1 i) x.2
  have h5 := dl_add (nth x.1 i * y.2) (nth y.1 i * x.2)
  omega
end Go.Fl

/- A part of an array of the call's own, as a slice; copies of integers into it. -/
namespace Go.Fl
open Go Go.RowKit
theorem run_copy_w {P : Program} (w : World) (dT sT ty elem : TypeId) (g o dLen dCap sz n : Nat) (src : Value) (cur : Array Value) (t : TypeId) (cs : List Value) (hu : P.underlying dT = some (.slice elem)) (hs : (P.info? elem).map (·.size) = some sz)
    (hg : w.heap[g]? = some (.cells cur t (0, 0))) (hl : (Builtin.lenOf src).run P w = .ok n w) (hf : (Builtin.firstCells sz (Nat.min n dLen) src).run P w = .ok cs.toArray w) (hfit : o + cs.length ≤ cur.size) (h1 : ∀ v ∈ cs, v.oneCell' = true) :
    (Builtin.copy_ #[dT, sT] ty #[.slice (some ⟨g, o, none⟩) dLen dCap, src]).run P w = .ok (goInt (Nat.min n dLen)) (w.setRow g (cur.toList.take o ++ cs ++ cur.toList.drop (o + cs.length)).toArray) := by
  have hst := run_storeCells_at P g o t cs 0 cur w hg (by simpa using hfit) h1
  cases hq : P.info? elem with
  | none => simp [hq] at hs
  | some i =>
    have hi : i.size = sz := by simpa [hq] using hs
    simp [Builtin.copy_, run_underlying hu, sizeOf, typeInfo, hq, hi, hl, hf, hst]
def kBsl (t o l c : Nat) : Know := fun g v => ∃ b cap, g.M t = some (.blk b cap) ∧ v = .slice (some ⟨b, o, none⟩) l c
instance (t o l c : Nat) : KDep (kBsl t o l c) [t] := ⟨fun _ hd ⟨b, cap, h1, h2⟩ => ⟨b, cap, (hd t (by simp)).trans h1, h2⟩⟩
section
variable {P : Program} {c : Ctx} {S : Slots} {M : Conts} {p : Bool} {d : Option Tmp} {ty : TypeId} {pos : String} {af : Array Edge} {gd : Option (Nat × Bool)} {x y : Operand} {b b' : Bool}
theorem ok_slArrO {t et : TypeId} {n : Nat} [ht : TyArr P t n et] {sz by' : Nat} {zz : Value} [hz : TySz P et sz by' zz] {u o : Nat} {ik : IntKind} {i0 : Int} (hx : opK S x = some (b, kOwn u o)) (hb : p = true → b = true) (hy : opK S y = some (b', kInt ik i0)) (hb' : p = true → b' = true)
    (h : p = true → 0 ≤ i0 ∧ i0 ≤ n) : OpOk P c S M ⟨d, .slice t x none (some y) none, ty, pos, af, gd⟩ p (kBsl u o i0.toNat n) none :=
  OpOk.pure fun hp a g w _ _ ho => by
    obtain ⟨bl, cap, h1, h2⟩ := ho x (by simp [Op.operands]) b _ hx (hb hp)
    have hi : a.eval y = _ := ho y (by simp [Op.operands]) b' _ hy (hb' hp)
    have hlt := h hp
    obtain ⟨ti, hti, rfl, _, _⟩ := hz.h
    refine ⟨.slice (some ⟨bl, o, none⟩) i0.toNat n, ?_, bl, cap, h1, rfl⟩
    have hbd : (Instr.sliceBounds false n n none (some (.int ik i0)) none).run P w = .ok (0, i0.toNat, n) w := by
      simp [Instr.sliceBounds, Instr.sliceBound, asIntOf, hlt]
    simp only [execOp, hi, h2, Option.map, Sem.run_bind]
    unfold Instr.sliceAt
    simp only [Sem.run_bind, run_underlying ht.h, Result.andThen_ok, Instr.sureAddr, Sem.run_pure, hbd]
    simp [sizeOf, typeInfo, hti, Addr.add]
end
section
variable {P : Program} {c : Ctx} {ops : Array Oper} {S : Slots} {M : Conts} {rest : List Oper} {Q : Exit → Act → World → Prop} {x y : Operand}
variable {d : Nat} {ty : TypeId} {pos : String} {af : Array Edge}
theorem wC_succ {f : Nat → Int} {i m : Nat} {z : Int} (h : f i = z) : wC f i (m + 1) = kB (decide (z < 0)) :: kRd (eL eI) (digN z.natAbs) :: wC f (i + 1) m := by subst h; rfl
theorem wC_cpy {ys : List Int} {g : Gh} : ∀ {k : Nat} {f : Nat → Int} {i m : Nat} {r : List Know} {cs vs : List Value}, allK g (wC f i m ++ r) cs → k ≤ m → k ≤ ys.length → rdA eZ g.J vs (ys.take k) → allK g (wC (fun j => if i ≤ j ∧ j < i + k then nth ys (j - i) else f j) i m ++ r) (vs ++ cs.drop (2 * k)) := by
  intro k
  induction ys generalizing k with
  | nil =>
    intro f i m r cs vs h _ hk hv
    obtain rfl : k = 0 := by simpa using hk
    have hv : vs = [] := hv
    subst hv
    rw [wC_congr (f' := f) fun j _ _ => if_neg (by omega)]
    simpa using h
  | cons y ys ih =>
    intro f i m r cs vs h hkm hk hv
    cases k with
    | zero =>
      have hv : vs = [] := hv
      subst hv
      rw [wC_congr (f' := f) fun j _ _ => if_neg (by omega)]
      simpa using h
    | succ k =>
      cases m with
      | zero => omega
      | succ m =>
        rw [List.take_succ_cons] at hv
        obtain ⟨c1, c2, rfl, q1, q2⟩ := hv
        match cs, h with
        | a :: b :: cs, ⟨h1, h2, h3⟩ =>
          have hr := ih (k := k) (f := f) (i := i + 1) (m := m) h3 (by omega) (by simpa using hk) q2
          have e0 : (fun j => if i ≤ j ∧ j < i + (k + 1) then nth (y :: ys) (j - i) else f j) i = y := by simp [nth]
          rw [List.append_assoc, show 2 * (k + 1) = 2 * k + 2 by omega, List.drop_succ_cons, List.drop_succ_cons]
          rw [wC_succ e0, wC_congr (f' := fun j => if i + 1 ≤ j ∧ j < i + 1 + k then nth ys (j - (i + 1)) else f j) (fun j hj _ => by
            by_cases e : j < i + (k + 1)
            · rw [if_pos ⟨by omega, e⟩, if_pos ⟨hj, by omega⟩, show j - i = (j - (i + 1)) + 1 by omega]; rfl
            · rw [if_neg (by omega), if_neg (by omega)])]
          exact (inferInstance : EncCells eZ y _ _).imp q1 hr
theorem TrL.cpW {t et : TypeId} [ht : TySl P t et] {by' : Nat} {zz : Value} [hz : TySz P et 2 by' zz] {u l1 c1 m : Nat} {f : Nat → Int} {ys : List Int} {r : List Know} {dep dep' : List Nat} {M' : Conts} (k : Nat) (hx : opK S x = some (true, kBsl u 0 l1 c1)) (hy : opK S y = some (true, kRd (eL eZ) ys)) [hl : LkM M u (cBlk (wC f 0 m ++ r)) dep]
    (hk : k = min ys.length l1) (hm : l1 ≤ m) [hd : KsDep (wC (fun j => if j < k then nth ys j else f j) 0 m ++ r) dep'] [hup : UpM M u (cBlk (wC (fun j => if j < k then nth ys j else f j) 0 m ++ r)) dep' M'] (hs : subT dep' (tags M) = true) (hn : Nat.blt d c.n = true)
    (K : TrL P c ops (⟨d, true, [], kI k⟩ :: S) M' rest Q) : TrL P c ops S M (⟨some d, .call { callee := .builtin .copy, args := #[x, y], argTypes := #[t, t] }, ty, pos, af, none⟩ :: rest) Q := by
  intro a g w hsat
  have hdn : d < c.n := by simpa [Nat.blt_eq] using hn
  obtain ⟨b, cap, hm1, he⟩ := opK_holds hsat.slots hx rfl
  obtain ⟨cs0, ⟨ad, cp, rfl, k2, k3⟩, hv⟩ := opK_holds hsat.slots hy rfl
  simp only [eL, Bool.false_eq_true, if_false, List.headD_cons] at hv
  obtain ⟨cs, tt, h3, h4⟩ := blk_of (ks := wC f 0 m ++ r) hsat.conts hm1
  obtain ⟨ti, hti, hts, _, _⟩ := hz.h
  have hcl := allK_len h4
  simp only [Array.length_toList, List.length_append, wC_len] at hcl
  obtain ⟨vs, hvs, hfc⟩ : ∃ vs, rdA eZ g.J vs (ys.take k) ∧ (Builtin.firstCells 2 (Nat.min ys.length l1) (a.eval y)).run P w = .ok vs.toArray w := by
    have hkk : Nat.min ys.length l1 = k := hk.symm
    rw [hkk, hv]
    rcases k3 with rfl | ⟨bl, o, rfl, hrow⟩
    · have hk0 : k = 0 := by simpa using hk
      subst hk0
      refine ⟨[], rfl, ?_⟩
      cases ad with
      | none => rfl
      | some ad =>
        have := run_loadCells_list (P := P) w ad [] (fun j v hj => by simp at hj)
        simpa [Builtin.firstCells] using this
    · have key : ∀ (n i : Nat) (zs : List Int), zs.length = n → (∀ j x, zs[j]? = some x → ∃ ds, eZ.rd g.J ds x ∧ cellsAt g.J bl (o + (i + j) * 2) ds) → ∃ vs, rdA eZ g.J vs zs ∧ cellsAt g.J bl (o + i * 2) vs := by
        intro n
        induction n with
        | zero => intro i zs hz _; rw [List.eq_nil_of_length_eq_zero hz]; exact ⟨[], rfl, fun j v hj => by simp at hj⟩
        | succ n ih =>
          intro i zs hz hr
          match zs, hz with
          | z :: zs, hz =>
            obtain ⟨ds, q1, q2⟩ := hr 0 z rfl
            obtain ⟨vs, r1, r2⟩ := ih (i + 1) zs (by simpa using hz) (fun j x hx => by
              obtain ⟨es, s1, s2⟩ := hr (j + 1) x (by simpa using hx)
              exact ⟨es, s1, by rwa [show i + 1 + j = i + (j + 1) by omega]⟩)
            refine ⟨ds ++ vs, ⟨ds, vs, rfl, q1, r1⟩, fun j v hj => ?_⟩
            have hl := eZ.len q1
            rw [show eZ.n = 2 from rfl] at hl
            rw [List.getElem?_append] at hj
            split at hj
            · have := q2 j v hj
              rwa [Nat.add_zero] at this
            · have := r2 _ v hj
              rwa [show o + (i + 1) * 2 + (j - ds.length) = o + i * 2 + j by omega] at this
      obtain ⟨vs, r1, r2⟩ := key _ 0 (ys.take k) rfl (fun j x hx => by
        rw [List.getElem?_take] at hx
        split at hx
        · obtain ⟨ds, q1, q2⟩ := hrow j x hx
          exact ⟨ds, q1, by rw [Nat.zero_add]; exact q2⟩
        · cases hx)
      refine ⟨vs, r1, ?_⟩
      have hlen := rdA_len r1
      rw [List.length_take, show eZ.n = 2 from rfl] at hlen
      have := run_loadCells_list (P := P) w ⟨bl, o, none⟩ vs (fun j v hj => by
        have := hsat.ok.im _ _ _ (r2 j v hj)
        rw [Addr.add_lit]
        simpa using this)
      rw [hlen, show min k ys.length = k by omega] at this
      simpa [Builtin.firstCells] using this
  have hvl : vs.length = k * 2 := by
    have := rdA_len hvs
    rw [List.length_take, show eZ.n = 2 from rfl] at this
    rw [this]; congr 1; omega
  have hr := run_copy_w (P := P) w t t ty et b 0 l1 c1 2 ys.length (a.eval y) cs tt vs ht.h (by rw [hti]; simp [hts]) h3 (by rw [hv]; simp [Builtin.lenOf]) hfc (by omega) (rdA_all1 hvs)
  refine wpList_plain rfl fun K' hK' => ?_
  unfold Oper.wp
  simp only [execOp, resolve, Sem.run_bind, Sem.run_pure, Result.andThen_ok, invoke, builtin, List.map_toArray, List.map_cons, List.map_nil]
  rw [he, hr]
  simp only [Result.andThen_ok, Oper.upon]
  have hnew := wC_cpy (ys := ys) h4 (k := k) (by omega) (by omega) hvs
  rw [wC_congr (f' := fun j => if j < k then nth ys j else f j) (fun j _ _ => by
    by_cases e : j < k
    · rw [if_pos ⟨Nat.zero_le _, by omega⟩, if_pos e, Nat.sub_zero]
    · rw [if_neg (by omega), if_neg e])] at hnew
  have hst := hsat.store hm1 h3 hup ⟨_, _, rfl, (by simpa [hvl, Nat.mul_comm] using hnew : allK g _ (cs.toList.take 0 ++ vs ++ cs.toList.drop (0 + vs.length)).toArray.toList)⟩ inferInstance (subT_spec hs)
  refine hK' _ _ (K _ g _ (hst.did (Did.same hst.ok (k := kI k) ?_) (fun _ h => by cases h) inferInstance (fun _ h => by cases h) hdn))
  show goInt (Nat.min ys.length l1) = _
  rw [show Nat.min ys.length l1 = k from hk.symm]
  rfl
theorem allK_two {g : Gh} {a b : Know} {vs : List Value} (h : allK g [a, b] vs) : ∃ u v, vs = [u, v] ∧ a g u ∧ b g v := by
  match vs, h with
  | [u, v], h => exact ⟨u, v, rfl, h.1, h.2.1⟩
theorem upd_map {F C : Nat → Int} {k j : Nat} {z : Int} (hz : z = F k) : upd (fun i => if i < k then F i else C i) k z j = if j < k + 1 then F j else C j := by
  unfold upd
  by_cases e : j = k
  · subst e; rw [if_pos rfl, if_pos (Nat.lt_succ_self _), hz]
  · rw [if_neg e]
    show (if j < k then F j else C j) = _
    by_cases h : j < k
    · rw [if_pos h, if_pos (by omega)]
    · rw [if_neg h, if_neg (by omega)]
theorem Tr.conC {code : Code} (v : Nat) {ct ct' : Cont} {dep dep' : List Nat} {M' : Conts} [hl : LkM M v ct dep] (hc : ∀ g b o, ct g b o → ct' g b o) [hd : CDep ct' dep'] [hup : UpM M v ct' dep' M'] (hs : subT dep' (tags M) = true) (K : Tr P c S M' code Q) : Tr P c S M code Q :=
  fun a g w h => K a g w (h.conC hc hd hup (subT_spec hs))
theorem wC_zero {r r' : List Know} (hr : ∀ g vs, allK g r vs → allK g r' vs) : ∀ g b o, cBlk ([kB false, kDet (.slice none 0 0), kB false, kDet (.slice none 0 0), kB false, kDet (.slice none 0 0), kB false, kDet (.slice none 0 0)] ++ r) g b o → cBlk (wC (fun _ => 0) 0 4 ++ r') g b o := fun g _ _ ⟨cs, ty, h1, h2⟩ => ⟨cs, ty, h1, by
  have hz : ∀ v, kDet (.slice none 0 0) g v → kRd (eL eI) (digN (0 : Int).natAbs) g v := fun v h => by
    cases h
    exact ⟨_, rd_nil (c := 0), rfl⟩
  match h : cs.toList, h2 with
  | a0 :: b0 :: a1 :: b1 :: a2 :: b2 :: a3 :: b3 :: vs, ⟨q0, p0, q1, p1, q2, p2, q3, p3, hvs⟩ => exact ⟨q0, hz _ p0, q1, hz _ p1, q2, hz _ p2, q3, hz _ p3, hr _ _ hvs⟩⟩
end
end Go.Fl

/- Contracts: numbers of a field (reduction modulo its polynomial, sums, negatives). -/
namespace Go.Fl
open Go Go.Proofs
open TrL renaming op → tO
open RunD renaming op → rO

abbrev RlT := FdT × List Int × List Int × Int × Int × Int
abbrev NumT := List (List Int) × List Int
def eReal : Enc RlT := eC (fun v : RlT => (v.1, v.2.1, v.2.2.1, v.2.2.2.1, v.2.2.2.2.1, v.2.2.2.2.2, ())) (eP eFd (eP (eL eZ) (eP (eL eZ) (eP eZ (eP eZ (eP eZ eU))))))
instance {v : RlT} : CellsK (kRd eReal v) [kRd (eL eI) (v.1.1), kI (v.1.2.1), kI (v.1.2.2.1), kI (v.1.2.2.2), kRd (eL eZ) (v.2.1), kRd (eL eZ) (v.2.2.1), kB (decide (v.2.2.2.1 < 0)), kRd (eL eI) (digN (v.2.2.2.1).natAbs), kB (decide (v.2.2.2.2.1 < 0)), kRd (eL eI) (digN (v.2.2.2.2.1).natAbs), kB (decide (v.2.2.2.2.2 < 0)), kRd (eL eI) (digN (v.2.2.2.2.2).natAbs)] := inferInstanceAs (CellsK (kRd (eC (fun v : RlT => (v.1, v.2.1, v.2.2.1, v.2.2.2.1, v.2.2.2.2.1, v.2.2.2.2.2, ())) (eP eFd (eP (eL eZ) (eP (eL eZ) (eP eZ (eP eZ (eP eZ eU))))))) v) _)
instance {v : RlT} {tl : List Know} : EncCells eReal v tl (kRd (eL eI) (v.1.1) :: kI (v.1.2.1) :: kI (v.1.2.2.1) :: kI (v.1.2.2.2) :: kRd (eL eZ) (v.2.1) :: kRd (eL eZ) (v.2.2.1) :: kB (decide (v.2.2.2.1 < 0)) :: kRd (eL eI) (digN (v.2.2.2.1).natAbs) :: kB (decide (v.2.2.2.2.1 < 0)) :: kRd (eL eI) (digN (v.2.2.2.2.1).natAbs) :: kB (decide (v.2.2.2.2.2 < 0)) :: kRd (eL eI) (digN (v.2.2.2.2.2).natAbs) :: tl) := inferInstanceAs (EncCells (eC (fun v : RlT => (v.1, v.2.1, v.2.2.1, v.2.2.2.1, v.2.2.2.2.1, v.2.2.2.2.2, ())) (eP eFd (eP (eL eZ) (eP (eL eZ) (eP eZ (eP eZ (eP eZ eU))))))) v tl _)
instance {v : RlT} : Norm eReal v (kRd eReal v) := ⟨fun h => h⟩
instance {v : RlT} : FieldP eReal v 0 eFd (v.1) 0 := inferInstanceAs (FieldP (eC (fun v : RlT => (v.1, v.2.1, v.2.2.1, v.2.2.2.1, v.2.2.2.2.1, v.2.2.2.2.2, ())) (eP eFd (eP (eL eZ) (eP (eL eZ) (eP eZ (eP eZ (eP eZ eU))))))) v 0 _ _ _)
instance {v : RlT} : FieldP eReal v 1 (eL eZ) (v.2.1) 4 := inferInstanceAs (FieldP (eC (fun v : RlT => (v.1, v.2.1, v.2.2.1, v.2.2.2.1, v.2.2.2.2.1, v.2.2.2.2.2, ())) (eP eFd (eP (eL eZ) (eP (eL eZ) (eP eZ (eP eZ (eP eZ eU))))))) v 1 _ _ _)
instance {v : RlT} : FieldP eReal v 2 (eL eZ) (v.2.2.1) 5 := inferInstanceAs (FieldP (eC (fun v : RlT => (v.1, v.2.1, v.2.2.1, v.2.2.2.1, v.2.2.2.2.1, v.2.2.2.2.2, ())) (eP eFd (eP (eL eZ) (eP (eL eZ) (eP eZ (eP eZ (eP eZ eU))))))) v 2 _ _ _)
instance {v : RlT} : FieldP eReal v 3 eZ (v.2.2.2.1) 6 := inferInstanceAs (FieldP (eC (fun v : RlT => (v.1, v.2.1, v.2.2.1, v.2.2.2.1, v.2.2.2.2.1, v.2.2.2.2.2, ())) (eP eFd (eP (eL eZ) (eP (eL eZ) (eP eZ (eP eZ (eP eZ eU))))))) v 3 _ _ _)
instance {v : RlT} : FieldP eReal v 4 eZ (v.2.2.2.2.1) 8 := inferInstanceAs (FieldP (eC (fun v : RlT => (v.1, v.2.1, v.2.2.1, v.2.2.2.1, v.2.2.2.2.1, v.2.2.2.2.2, ())) (eP eFd (eP (eL eZ) (eP (eL eZ) (eP eZ (eP eZ (eP eZ eU))))))) v 4 _ _ _)
instance {v : RlT} : FieldP eReal v 5 eZ (v.2.2.2.2.2) 10 := inferInstanceAs (FieldP (eC (fun v : RlT => (v.1, v.2.1, v.2.2.1, v.2.2.2.1, v.2.2.2.2.1, v.2.2.2.2.2, ())) (eP eFd (eP (eL eZ) (eP (eL eZ) (eP eZ (eP eZ (eP eZ eU))))))) v 5 _ _ _)
instance {ks r : List Know} {f : FdT} {p t : List Int} {a b c : Int} [h : RdOf ks (eP eFd (eP (eL eZ) (eP (eL eZ) (eP eZ (eP eZ (eP eZ eU)))))) (f, p, t, a, b, c, ()) r] : RdOf ks eReal ((f, p, t, a, b, c)) r := ⟨fun h' => h.imp h'⟩
def eNum : Enc NumT := eC (fun v : NumT => (v.1, v.2, ())) (eP (eL (eL eI)) (eP (eL eI) eU))
instance {v : NumT} : CellsK (kRd eNum v) [kRd (eL (eL eI)) (v.1), kRd (eL eI) (v.2)] := inferInstanceAs (CellsK (kRd (eC (fun v : NumT => (v.1, v.2, ())) (eP (eL (eL eI)) (eP (eL eI) eU))) v) _)
instance {v : NumT} {tl : List Know} : EncCells eNum v tl (kRd (eL (eL eI)) (v.1) :: kRd (eL eI) (v.2) :: tl) := inferInstanceAs (EncCells (eC (fun v : NumT => (v.1, v.2, ())) (eP (eL (eL eI)) (eP (eL eI) eU))) v tl _)
instance {v : NumT} : Norm eNum v (kRd eNum v) := ⟨fun h => h⟩
instance {v : NumT} : FieldP eNum v 0 (eL (eL eI)) (v.1) 0 := inferInstanceAs (FieldP (eC (fun v : NumT => (v.1, v.2, ())) (eP (eL (eL eI)) (eP (eL eI) eU))) v 0 _ _ _)
instance {v : NumT} : FieldP eNum v 1 (eL eI) (v.2) 1 := inferInstanceAs (FieldP (eC (fun v : NumT => (v.1, v.2, ())) (eP (eL (eL eI)) (eP (eL eI) eU))) v 1 _ _ _)
instance {ks r : List Know} {a : List (List Int)} {b : List Int} [h : RdOf ks (eP (eL (eL eI)) (eP (eL eI) eU)) (a, b, ()) r] : RdOf ks eNum ((a, b)) r := ⟨fun h' => h.imp h'⟩
instance : TyPtr Tryz.prog 96 := ⟨⟨_, Tryz.underlying96⟩⟩
set_option maxRecDepth 100000 in
theorem ct_degree (r : RlT) (hn : 2 ≤ r.2.1.length ∧ r.2.1.length ≤ 5) : Ct Tryz.prog 109 [kPtr eReal r] (kI ((r.2.1.length : Int) - 1)) := by
  refine Ct.mk Tryz.func109 rfl Tryz.ntmps109 rfl (fun w J => ?_); refine Tr.seq (Tr.rg ?_); refine mw rfl rfl rfl ?_; refine TrL.fin (End.nxt (Tr.seq (Tr.rg ?_))); refine mv rfl rfl rfl ?_; refine tO (ok_nilP rfl uu) rfl rfl ?_; refine tO (ok_fldP rfl uu rfl) rfl rfl ?_; refine tO (ok_ldP rfl uu rfl) rfl rfl ?_; refine tO (ok_lenJ rfl uu) rfl rfl ?_; refine tO (ok_sub rfl uu rfl uu (fun _ => by omega)) rfl rfl ?_; refine mw rfl rfl rfl ?_; refine TrL.fin (End.nxt (Tr.ret ?_))
  exact Rts.res1 (fn := Tryz.f109) rfl (.i rfl (by first | rfl | omega | simp <;> omega | assumption) <| .nil)

set_option maxRecDepth 100000 in
theorem ct_cloneW (p : List Int) (hn : p.length ≤ 1000000) : CtN Tryz.prog 196 [kRd (eL eZ) p] (fun t => kOsl t p.length) (cArr false 160 eZ p p.length) := by
  refine CtN.mk Tryz.func196 rfl Tryz.ntmps196 rfl (fun w J => ?_); refine Tr.seq (Tr.rg ?_); refine mw rfl rfl rfl ?_; refine TrL.fin (End.nxt (Tr.seq (Tr.seq (Tr.rg ?_)))); refine mv rfl rfl rfl ?_; refine tO (ok_eqlNilJ rfl uu) rfl rfl ?_; refine TrL.fin (End.nxt ?_); refine Tr.exB (s := 4) rfl (fun b1 q1 => ?_); refine Tr.cnd rfl ?_ ?_
  · intro h1
    have he1 : [] = p := (q1 h1).symm
    have he2 : 0 = p.length := by rw [← he1]; rfl
    refine Tr.seq (Tr.rg ?_); refine mw rfl rfl rfl ?_; refine TrL.fin (End.nxt ?_); refine Tr.grow (s := 2) rfl rfl 9 rfl 160 eZ rfl ?_; refine Tr.ret (Rts.thn ?_)
    exact Rts.resN (fn := Tryz.f196) (u := 9) rfl rfl (arr_res (by first | rfl | omega | simp <;> omega | assumption) (by first | rfl | omega | simp <;> omega | assumption)) (osl_res (by first | rfl | omega | simp <;> omega | assumption)) inferInstance
  · intro h1
    refine Tr.skip (End.nxt (Tr.seq (Tr.rg ?_))); refine TrL.new (ok_bsl0 eZ 5) rfl rfl rfl rfl ?_; refine mv rfl rfl rfl ?_
    refine TrL.app rfl rfl rfl rfl rfl rfl rfl rfl (by first | omega | (simp only [List.length_cons, List.length_nil]; omega)) (by first | omega | (simp only [List.length_cons, List.length_nil]; omega)) ?_
    refine TrL.norm (S' := [⟨_, _, _, _⟩, ⟨_, _, _, _⟩, ⟨_, _, _, _⟩, ⟨_, _, _, _⟩, ⟨_, _, _, _⟩, ⟨_, _, _, _⟩, ⟨_, _, _, _⟩, ⟨_, _, _, _⟩]) rfl rfl ?_; refine mw rfl rfl rfl ?_; refine TrL.fin (End.nxt (Tr.ret ?_))
    exact Rts.resN (fn := Tryz.f196) (u := 5) rfl rfl (arr_res (by first | rfl | omega | simp <;> omega | assumption) (by first | rfl | omega | simp <;> omega | assumption)) (osl_res (by first | rfl | omega | simp <;> omega | assumption)) inferInstance

set_option maxRecDepth 100000 in
set_option maxHeartbeats 1000000 in
theorem ct_reduced (r : RlT) (xs : List Int) (d : Int) (B : Nat) (hn : 2 ≤ r.2.1.length ∧ r.2.1.length ≤ 5) (hL : xs.length ≤ 16) (hc : ∀ i, dl (nth xs i) ≤ B) (hpp : ∀ i, dl (nth r.2.1 i) ≤ 1) (hB : B ≤ 600000) (hd : dl d ≤ 700000) (h0 : d ≠ 0) : Ct Tryz.prog 161 [kPtr eReal r, kRd (eL eZ) xs, kRd eW (wh d)] (kRd eNu (loN (pad r.2.1 xs) d)) := by
  obtain ⟨n, hn1⟩ : ∃ n, r.2.1.length = n + 1 := ⟨r.2.1.length - 1, by omega⟩
  have hn2 : r.2.1.length - 1 = n := by omega
  refine Ct.mk Tryz.func161 rfl Tryz.ntmps161 rfl (fun w J => ?_); refine Tr.seq (Tr.rg ?_); refine TrL.new (ok_box 5 rfl uu rfl) rfl rfl rfl rfl ?_; refine TrL.new (ok_alloc 6) rfl rfl rfl rfl ?_; refine TrL.fin (End.nxt (Tr.seq (Tr.rg ?_))); refine mv rfl rfl rfl ?_; refine tO (ok_call (fun hp => ct_degree r hn) (.a rfl uu <| .nil)) rfl rfl ?_; refine mw rfl rfl rfl ?_; refine TrL.fin (End.nxt (Tr.seq (Tr.rg ?_))); refine mv rfl rfl rfl ?_; refine TrL.new (ok_callN 15 (fun hp => ct_cloneW _ (by omega)) (.a rfl uu <| .nil)) rfl rfl rfl rfl ?_
  refine mw rfl rfl rfl ?_; refine TrL.fin (End.nxt (Tr.seq (Tr.seq (Tr.rg ?_)))); refine mv rfl rfl rfl ?_; refine tO (ok_lenO rfl uu) rfl rfl ?_; refine tO (ok_sub rfl uu rfl uu (fun _ => by omega)) rfl rfl ?_; refine mw rfl rfl rfl ?_; refine TrL.fin (End.nxt ?_)
  refine Tr.for1 (σ := List Int × Nat) [⟨0, true, _, _⟩, ⟨1, true, _, _⟩, ⟨5, true, _, _⟩, ⟨6, true, _, _⟩, ⟨7, true, _, _⟩] [⟨5, _, _⟩, ⟨6, _, _⟩] (fun (ys, m) => [⟨8, true, [], kI ((m : Int) - 1)⟩]) (fun (ys, m) => [⟨15, [], cArr false 160 eZ ys xs.length⟩]) (fun (ys, m) => ys.length = xs.length ∧ m ≤ xs.length ∧ red r.2.1 (ys.take m) = red r.2.1 xs ∧ (∀ j, dl (nth ys j) ≤ B + 2 * (xs.length - m)) ∧ (n ≤ m ∨ m = xs.length)) (fun (ys, m) => ys.length = xs.length ∧ m = min n xs.length ∧ red r.2.1 (ys.take m) = red r.2.1 xs ∧ (∀ j, dl (nth ys j) ≤ B + 2 * (xs.length - m))) (fun (ys, m) => m) ((xs, xs.length)) ⟨rfl, Nat.le_refl _, by rw [List.take_length], fun j => by have := hc j; omega, .inr rfl⟩ (Ent.mk (.i rfl (by first | rfl | omega | simp <;> omega | assumption) <| .k rfl rfl <| .k rfl rfl <| .k rfl rfl <| .k rfl rfl <| .k rfl rfl <| .nil) (.k rfl <| .k rfl <| .k rfl <| .nil) rfl) ?_ ?_
  · rintro ⟨ys, m⟩ ⟨hl, hm, hr, hy, hnm⟩
    refine Tr.norm (S' := [⟨8, true, _, _⟩, ⟨0, true, _, _⟩, ⟨1, true, _, _⟩, ⟨5, true, _, _⟩, ⟨6, true, _, _⟩, ⟨7, true, _, _⟩]) (M' := [⟨15, _, _⟩, ⟨5, _, _⟩, ⟨6, _, _⟩]) rfl rfl ?_; refine Tr.seq (Tr.seq (Tr.rg ?_)); refine mv rfl rfl rfl ?_; refine mv rfl rfl rfl ?_; refine tO (ok_geq rfl uu rfl uu) rfl rfl ?_; refine TrL.fin (End.nxt ?_); refine Tr.cnd rfl ?_ ?_
    · intro h4
      replace h4 := of_decide_eq_true h4
      refine Tr.skip (End.nxt (Tr.seq (Tr.blk (Tr.seq (Tr.rg ?_))))); refine mv rfl rfl rfl ?_; refine mv rfl rfl rfl ?_; refine TrL.fin (End.nxt ?_)
      refine Tr.for1 (σ := Nat) [⟨0, true, _, _⟩, ⟨1, true, _, _⟩, ⟨5, true, _, _⟩, ⟨6, true, _, _⟩, ⟨7, true, _, _⟩, ⟨8, true, _, _⟩, ⟨24, true, _, _⟩] [⟨5, _, _⟩, ⟨6, _, _⟩] (fun k => [⟨25, true, [], kI (k : Int)⟩]) (fun k => [⟨15, [], cArr false 160 eZ (stpK r.2.1 ys n (m - 1) k) xs.length⟩]) (fun k => k ≤ n) (fun k => k = n) (fun k => n - k) (0) (by first | rfl | omega | simp <;> omega | assumption) (Ent.mk (.i rfl (by first | rfl | omega | simp <;> omega | assumption) <| .k rfl rfl <| .k rfl rfl <| .k rfl rfl <| .k rfl rfl <| .k rfl rfl <| .k rfl rfl <| .k rfl rfl <| .nil) (.a stpK_zero (by first | rfl | omega | simp <;> omega | assumption) <| .k rfl <| .k rfl <| .nil) rfl) ?_ ?_
      · intro k hR1
        refine Tr.norm (S' := [⟨25, true, _, _⟩, ⟨0, true, _, _⟩, ⟨1, true, _, _⟩, ⟨5, true, _, _⟩, ⟨6, true, _, _⟩, ⟨7, true, _, _⟩, ⟨8, true, _, _⟩, ⟨24, true, _, _⟩]) (M' := [⟨15, _, _⟩, ⟨5, _, _⟩, ⟨6, _, _⟩]) rfl rfl ?_
        have hix : ((m : Int) - 1 - ((r.2.1.length : Int) - 1) + (k : Int)).toNat = m - 1 - n + k := by omega
        have hiy : ((m : Int) - 1).toNat = m - 1 := by omega
        have hsd := stpK_dl (p := r.2.1) (ys := ys) (n := n) (i := m - 1) (k := k) (by omega) (by omega) hy hpp
        have hsl : (stpK r.2.1 ys n (m - 1) k).length = ys.length := stpK_len
        refine Tr.seq (Tr.rg ?_); refine tO (ok_lss rfl uu rfl uu) rfl rfl ?_; refine TrL.fin (End.nxt (Tr.seq ?_)); refine Tr.cnd rfl ?_ ?_
        · intro h7
          replace h7 := of_decide_eq_true h7
          refine Tr.skip (End.nxt (Tr.seq (Tr.blk (Tr.seq (Tr.rg ?_))))); refine mv rfl rfl rfl ?_; refine mw rfl rfl rfl ?_; refine TrL.fin (End.nxt ?_); refine Tr.draw 28 mixed (by kernel_rfl) ?_; refine rO (ok_move rfl uu) rfl rfl ?_; refine rO (ok_move rfl uu) rfl rfl ?_; refine rO (ok_move rfl uu) rfl rfl ?_; refine rO (ok_sub rfl uu rfl uu (fun _ => by omega)) rfl rfl ?_; refine rO (ok_move rfl uu) rfl rfl ?_; refine rO (ok_add rfl uu rfl uu (fun _ => by omega)) rfl rfl ?_; refine rO (ok_move rfl uu) rfl rfl ?_; refine rO (ok_move rfl uu) rfl rfl ?_
          refine rO (ok_move rfl uu) rfl rfl ?_; refine rO (ok_sub rfl uu rfl uu (fun _ => by omega)) rfl rfl ?_; refine rO (ok_move rfl uu) rfl rfl ?_; refine rO (ok_add rfl uu rfl uu (fun _ => by omega)) rfl rfl ?_
          first | refine rO (ok_idxEN rfl uu rfl uu (fun _ => by omega)) rfl rfl ?_ | refine rO (ok_idxE rfl uu rfl uu (fun _ => by omega)) rfl rfl ?_
          refine rO (ok_ldEA rfl uu rfl rfl rfl rfl) rfl rfl ?_; refine rO (ok_move rfl uu) rfl rfl ?_; refine rO (ok_move rfl uu) rfl rfl ?_
          first | refine rO (ok_idxEN rfl uu rfl uu (fun _ => by omega)) rfl rfl ?_ | refine rO (ok_idxE rfl uu rfl uu (fun _ => by omega)) rfl rfl ?_
          refine rO (ok_ldEA rfl uu rfl rfl rfl rfl) rfl rfl ?_; refine rO (ok_move rfl uu) rfl rfl ?_; refine rO (ok_nilP rfl uu) rfl rfl ?_; refine rO (ok_fldP rfl uu rfl) rfl rfl ?_; refine rO (ok_ldP rfl uu rfl) rfl rfl ?_; refine rO (ok_move rfl uu) rfl rfl ?_
          first | refine rO (ok_idxN rfl uu rfl uu rfl (fun _ => by omega)) rfl rfl ?_ | refine rO (ok_idxP rfl uu rfl uu rfl (fun _ => by omega)) rfl rfl ?_
          refine rO (ok_ldPA rfl uu rfl rfl) rfl rfl ?_; refine rO (ok_call (fun hp => ct_wtimes _ _ (Nat.le_trans (hsd _) (by omega)) (Nat.le_trans (hpp _) (by omega))) (.a rfl uu <| .a rfl uu <| .nil)) rfl rfl ?_; refine rO (ok_call (fun hp => ct_wminus _) (.a rfl uu <| .nil)) rfl rfl ?_; refine rO (ok_call (fun hp => ct_wplus _ _ (Nat.le_trans (hsd _) (by omega)) (by rw [dl_neg]; exact Nat.le_trans (dl_mul _ _) (Nat.le_trans (Nat.add_le_add (hsd _) (hpp _)) (by omega)))) (.a rfl uu <| .a rfl uu <| .nil)) rfl rfl ?_; refine RunD.z ?_
          first | refine tO (ok_idxEN rfl uu rfl uu (fun _ => by omega)) rfl rfl ?_ | refine tO (ok_idxE rfl uu rfl uu (fun _ => by omega)) rfl rfl ?_
          refine TrL.stE rfl rfl rfl rfl rfl ?_; refine TrL.fin (End.blk (End.nxt (Tr.rg ?_))); refine tO (ok_add rfl uu rfl uu (fun _ => by omega)) rfl rfl ?_; refine mv rfl rfl rfl ?_; refine TrL.fin ?_
          exact End.lp (k + 1) (by first | rfl | omega | simp <;> omega | assumption) (by omega) (Ent.mk (.i rfl (by first | rfl | omega | simp <;> omega | assumption) <| .k rfl rfl <| .k rfl rfl <| .k rfl rfl <| .k rfl rfl <| .k rfl rfl <| .k rfl rfl <| .k rfl rfl <| .nil) (.a (by rw [hix, hiy, stpK_out (by omega) (by omega), stpK_out (by omega) (by omega)]; exact stpK_succ (by omega) (by omega) (by omega)) (by first | rfl | omega | simp <;> omega | assumption) <| .k rfl <| .k rfl <| .nil) rfl)
        · intro h7
          replace h7 := Int.not_lt.1 (of_decide_eq_false h7)
          refine Tr.exit (Exs.thn (Exs.thn (Exs.here ?_)))
          exact End.cut (k) (by omega) (Ent.mk (.i rfl (by first | rfl | omega | simp <;> omega | assumption) <| .k rfl rfl <| .k rfl rfl <| .k rfl rfl <| .k rfl rfl <| .k rfl rfl <| .k rfl rfl <| .k rfl rfl <| .nil) (.k rfl <| .k rfl <| .k rfl <| .nil) rfl)
      · rintro k hkn
        refine End.norm (S' := [⟨25, true, _, _⟩, ⟨0, true, _, _⟩, ⟨1, true, _, _⟩, ⟨5, true, _, _⟩, ⟨6, true, _, _⟩, ⟨7, true, _, _⟩, ⟨8, true, _, _⟩, ⟨24, true, _, _⟩]) (M' := [⟨15, _, _⟩, ⟨5, _, _⟩, ⟨6, _, _⟩]) rfl rfl ?_; refine End.blk (End.nxt (Tr.rg ?_)); refine mv rfl rfl rfl ?_; refine tO (ok_sub rfl uu rfl uu (fun _ => by omega)) rfl rfl ?_; refine mw rfl rfl rfl ?_; refine TrL.fin ?_
        exact End.lp ((stpK r.2.1 ys n (m - 1) n, m - 1)) ⟨stpK_len.trans hl, by omega, (red_round hn2 (by omega) (by omega)).trans hr, fun j => by have := stpK_dl (p := r.2.1) (n := n) (i := m - 1) (k := n) (by omega) (by omega) hy hpp j; omega, .inl (by omega)⟩ (by show m - 1 < m; omega) (Ent.mk (.i rfl (by first | rfl | omega | simp <;> omega | assumption) <| .k rfl rfl <| .k rfl rfl <| .k rfl rfl <| .k rfl rfl <| .k rfl rfl <| .nil) (.a (by rw [hkn]) (by first | rfl | omega | simp <;> omega | assumption) <| .k rfl <| .k rfl <| .nil) rfl)
    · intro h4
      replace h4 := Int.not_le.1 (of_decide_eq_false h4)
      refine Tr.exit (Exs.thn (Exs.thn (Exs.here ?_)))
      exact End.cut ((ys, m)) ⟨hl, by omega, hr, hy⟩ (Ent.mk (.i rfl (by first | rfl | omega | simp <;> omega | assumption) <| .k rfl rfl <| .k rfl rfl <| .k rfl rfl <| .k rfl rfl <| .k rfl rfl <| .nil) (.k rfl <| .k rfl <| .k rfl <| .nil) rfl)
  · rintro ⟨ys, m⟩ ⟨hl, hm, hr, hy⟩
    refine End.norm (S' := [⟨8, true, _, _⟩, ⟨0, true, _, _⟩, ⟨1, true, _, _⟩, ⟨5, true, _, _⟩, ⟨6, true, _, _⟩, ⟨7, true, _, _⟩]) (M' := [⟨15, _, _⟩, ⟨5, _, _⟩, ⟨6, _, _⟩]) rfl rfl ?_
    obtain ⟨X, hX⟩ : ∃ X, X = (if (ys.length : Int) < (r.2.1.length : Int) - 1 then (ys.length : Int) else (r.2.1.length : Int) - 1).toNat := ⟨_, rfl⟩
    have hXm : X = m := by split at hX <;> omega
    have hdr : ∀ i, i < 4 → nth (red r.2.1 xs) i = (if i < m then nth ys i else 0) ∧ dl (nth (red r.2.1 xs) i) ≤ B + 2 * (xs.length - m) := fun i _ => dl_red hn2 (by omega) (by omega) hr hy i
    have hnt : ∀ i, i < m → nth (ys.take X) i = nth ys i := fun i h => nth_take' (by omega)
    have hpd : ∀ i, i < 4 → (if i < m then nth (ys.take X) i else 0) = nth (red r.2.1 xs) i := fun i h => by rw [(hdr i h).1]; split; (rename_i h2; exact hnt i h2); rfl
    have hdp : ∀ i, i < 4 → dl (if i < m then nth (ys.take X) i else 0) ≤ 700000 := fun i h => by rw [hpd i h]; have := (hdr i h).2; omega
    refine End.nxt (Tr.seq (Tr.rg ?_)); refine TrL.new (ok_alloc 10) rfl rfl rfl rfl ?_; refine TrL.fin (End.nxt (Tr.seq ?_)); refine Tr.conC 10 (ct' := cBlk (wC (fun _ => 0) 0 4 ++ [kB (decide ((0 : Int) < 0)), kRd (eL eI) (digN ((0 : Int)).natAbs)])) (wC_zero (r' := [kB (decide ((0 : Int) < 0)), kRd (eL eI) (digN ((0 : Int)).natAbs)]) fun _ _ h => by obtain ⟨u, v, rfl, h1, h2⟩ := allK_two h; cases h1; cases h2; exact ⟨rfl, ⟨_, rd_nil (c := 0), rfl⟩, trivial⟩) rfl ?_; refine Tr.frz 15 [1] ⟨rfl, trivial⟩ (by simp only [lenMax]; omega) rfl ?_; refine Tr.norm (S' := ⟨_, _, _, _⟩ :: ⟨_, _, _, _⟩ :: ⟨_, _, _, _⟩ :: ⟨_, _, _, _⟩ :: ⟨_, _, _, _⟩ :: ⟨_, _, _, _⟩ :: ⟨_, _, _, _⟩ :: ⟨_, _, _, _⟩ :: []) (M' := [⟨_, _, _⟩, ⟨_, _, _⟩, ⟨_, _, _⟩]) rfl rfl ?_
    refine Tr.draw 9 mixed (by kernel_rfl) ?_; refine rO (ok_fldO rfl uu) rfl rfl ?_; refine rO (ok_move rfl uu) rfl rfl ?_; refine rO (ok_slArrO rfl uu rfl uu (fun _ => by omega)) rfl rfl ?_; refine rO (ok_move rfl uu) rfl rfl ?_; refine rO (ok_move rfl uu) rfl rfl ?_; refine rO (ok_move rfl uu) rfl rfl ?_; refine rO (ok_lenJ rfl uu) rfl rfl ?_; refine rO (ok_min rfl uu rfl uu) rfl rfl ?_; refine rO (ok_slJh rfl uu rfl uu (fun _ => by omega)) rfl rfl ?_; refine RunD.z ?_; refine TrL.cpW (m) rfl rfl (by rw [List.length_take]; split <;> omega) (by omega) rfl rfl ?_
    refine TrL.fin (End.nxt (Tr.seq (Tr.rg ?_))); refine tO (ok_ldBS rfl uu) rfl rfl ?_; refine tO (ok_fldO rfl uu) rfl rfl ?_; refine TrL.stB rfl rfl rfl rfl ?_; refine TrL.fin (End.nxt (Tr.seq (Tr.seq (Tr.rg ?_)))); refine tO (ok_fldO rfl uu) rfl rfl ?_; refine tO (ok_ldB rfl uu rfl) rfl rfl ?_; refine TrL.fin (End.nxt ?_); refine Tr.cnd rfl ?_ ?_
    · intro h14
      try simp only [decide_eq_true_eq] at h14
      refine Tr.seq (Tr.rg ?_); refine tO (ok_ldBS rfl uu) rfl rfl ?_; refine tO (ok_call (fun hp => ct_wminus d) (.se rfl uu rfl rfl <| .nil)) rfl rfl ?_; refine tO (ok_fldO rfl uu) rfl rfl ?_; refine TrL.stB rfl rfl rfl rfl ?_; refine TrL.fin (End.nxt (Tr.seq (Tr.rg ?_))); refine mv rfl rfl rfl ?_; refine TrL.fin (End.nxt ?_)
      refine Tr.for1 (σ := Nat) [⟨6, true, _, _⟩, ⟨10, true, _, _⟩] [⟨6, _, _⟩] (fun k => [⟨75, true, [], kI (k : Int)⟩]) (fun k => [⟨10, [], cBlk (wC (fun i => if i < k then -(if i < m then nth (ys.take X) i else 0) else (if i < m then nth (ys.take X) i else 0)) 0 4 ++ [kB (decide (-d < 0)), kRd (eL eI) (digN (-d).natAbs)])⟩]) (fun k => k ≤ 4) (fun k => k = 4) (fun k => 4 - k) (0) (by first | rfl | omega | simp <;> omega | assumption) (Ent.mk (.i rfl (by first | rfl | omega | simp <;> omega | assumption) <| .k rfl rfl <| .k rfl rfl <| .nil) (.conv (cW (fun j _ => by subst hX; exact (if_neg (Nat.not_lt_zero _)).symm) rfl) rfl <| .k rfl <| .nil) rfl) ?_ ?_
      · intro k hR2
        refine Tr.norm (S' := [⟨75, true, _, _⟩, ⟨6, true, _, _⟩, ⟨10, true, _, _⟩]) (M' := [⟨10, _, _⟩, ⟨6, _, _⟩]) rfl rfl ?_; refine Tr.seq (Tr.rg ?_); refine tO (ok_lss rfl uu rfl uu) rfl rfl ?_; refine TrL.fin (End.nxt (Tr.seq ?_)); refine Tr.cnd rfl ?_ ?_
        · intro h17
          replace h17 := of_decide_eq_true h17
          refine Tr.skip (End.nxt (Tr.seq (Tr.blk (Tr.seq (Tr.rg ?_))))); refine mv rfl rfl rfl ?_; refine mw rfl rfl rfl ?_; refine TrL.fin (End.nxt (Tr.rg ?_)); refine mv rfl rfl rfl ?_; refine mv rfl rfl rfl ?_; refine tO (ok_fldO rfl uu) rfl rfl ?_; refine tO (ok_idxArrO rfl uu rfl uu (fun _ => by omega)) rfl rfl ?_; refine tO (ok_ldW (k) (fun _ => by omega) (fun _ => by omega) rfl uu) rfl rfl ?_; refine tO (ok_call (fun hp => ct_wminus _) (.a rfl uu <| .nil)) rfl rfl ?_; refine tO (ok_fldO rfl uu) rfl rfl ?_
          refine tO (ok_idxArrO rfl uu rfl uu (fun _ => by omega)) rfl rfl ?_; refine TrL.stW (k) (by omega) (by omega) rfl rfl rfl ?_; refine TrL.fin (End.blk (End.nxt (Tr.rg ?_))); refine tO (ok_add rfl uu rfl uu (fun _ => by omega)) rfl rfl ?_; refine mv rfl rfl rfl ?_; refine TrL.fin ?_
          exact End.lp (k + 1) (by first | rfl | omega | simp <;> omega | assumption) (by omega) (Ent.mk (.i rfl (by first | rfl | omega | simp <;> omega | assumption) <| .k rfl rfl <| .k rfl rfl <| .nil) (.conv (cW (fun j _ => upd_map (F := fun i => -(if i < m then nth (ys.take X) i else 0)) (C := fun i => (if i < m then nth (ys.take X) i else 0)) (by rw [if_neg (Nat.lt_irrefl k)])) rfl) rfl <| .k rfl <| .nil) rfl)
        · intro h17
          replace h17 := Int.not_lt.1 (of_decide_eq_false h17)
          refine Tr.exit (Exs.thn (Exs.thn (Exs.here ?_)))
          exact End.cut (k) (by omega) (Ent.mk (.i rfl (by first | rfl | omega | simp <;> omega | assumption) <| .k rfl rfl <| .k rfl rfl <| .nil) (.k rfl <| .k rfl <| .nil) rfl)
      · rintro _ rfl
        refine End.norm (S' := [⟨75, true, _, _⟩, ⟨6, true, _, _⟩, ⟨10, true, _, _⟩]) (M' := [⟨10, _, _⟩, ⟨6, _, _⟩]) rfl rfl ?_; refine End.nxt (Tr.seq (Tr.rg ?_)); refine tO (ok_ldBS rfl uu) rfl rfl ?_
        refine tO (ok_call (fun hp => ct_nlowest _ _ (dl_tab fun i hi => by first | (subst hX; exact hdp i hi) | (rw [if_pos hi, dl_neg]; exact hdp i hi)) (by first | exact hd | (rw [dl_neg]; exact hd)) (by omega)) (.se rfl uu rfl rfl <| .nil)) rfl rfl ?_
        refine TrL.stB rfl rfl rfl rfl ?_; refine TrL.fin (End.nxt (Tr.ret ?_)); exact Rts.resC1 (fn := Tryz.f161) rfl rfl (aggRd rfl (by rw [eta4 (by rw [low_len, tab_len]), ← low_neg h0]; refine congrArg (fun l => loN l (-d)) ?_; simp only [pad, tab, List.map_map]; exact List.map_congr_left fun i hi => by have hi := List.mem_range.1 hi; simp only [Function.comp]; rw [if_pos hi, hpd i hi]))
    · intro h14
      try simp only [decide_eq_false_iff_not, Int.not_lt] at h14
      refine Tr.skip (End.nxt (Tr.seq (Tr.rg ?_))); refine tO (ok_ldBS rfl uu) rfl rfl ?_
      refine tO (ok_call (fun hp => ct_nlowest _ _ (dl_tab fun i hi => by first | (subst hX; exact hdp i hi) | (rw [if_pos hi, dl_neg]; exact hdp i hi)) (by first | exact hd | (rw [dl_neg]; exact hd)) (by omega)) (.se rfl uu rfl rfl <| .nil)) rfl rfl ?_
      refine TrL.stB rfl rfl rfl rfl ?_; refine TrL.fin (End.nxt (Tr.ret ?_)); exact Rts.resC1 (fn := Tryz.f161) rfl rfl (aggRd rfl (by rw [eta4 (by rw [low_len, tab_len])]; subst hX; exact congrArg (fun l => loN l d) (tab_congr hpd)))

set_option maxRecDepth 100000 in
theorem ct_nminus (c : List Int) (d : Int) : Ct Tryz.prog 119 [kRd eNu (c, d)] (kRd eNu (c.map fun z => -z, d)) := by
  refine Ct.mk Tryz.func119 rfl Tryz.ntmps119 rfl (fun w J => ?_); refine Tr.fact (s := 0) rfl (fun _ _ h => eNu_len h) (fun hl => ?_)
  have hl : c.length = 4 := hl
  refine Tr.seq (Tr.rg ?_); refine TrL.new (ok_box 1 rfl uu rfl) rfl rfl rfl rfl ?_; refine TrL.new (ok_alloc 2) rfl rfl rfl rfl ?_; refine TrL.fin (End.nxt (Tr.seq (Tr.seq (Tr.rg ?_)))); refine tO (ok_fldO rfl uu) rfl rfl ?_; refine tO (ok_ldBS rfl uu) rfl rfl ?_; refine mv rfl rfl rfl ?_; refine TrL.fin (End.nxt ?_)
  refine Tr.for1 (σ := Nat) [⟨1, true, _, _⟩, ⟨2, true, _, _⟩, ⟨6, true, _, _⟩] [⟨2, _, _⟩] (fun k => [⟨7, true, [], kI (k : Int)⟩]) (fun k => [⟨1, [], cBlk (wC (fun i => if i < k then -nth c i else nth c i) 0 4 ++ [kB (decide (d < 0)), kRd (eL eI) (digN (d).natAbs)])⟩]) (fun k => k ≤ 4) (fun k => k = 4) (fun k => 4 - k) (0) (by first | rfl | omega | simp <;> omega | assumption) (Ent.mk (.i rfl (by first | rfl | omega | simp <;> omega | assumption) <| .k rfl rfl <| .k rfl rfl <| .k rfl rfl <| .nil) (.conv (cW (fun j _ => (if_neg (by omega)).symm) rfl) rfl <| .k rfl <| .nil) rfl) ?_ ?_
  · intro k hR0
    refine Tr.norm (S' := [⟨7, true, _, _⟩, ⟨1, true, _, _⟩, ⟨2, true, _, _⟩, ⟨6, true, _, _⟩]) (M' := [⟨1, _, _⟩, ⟨2, _, _⟩]) rfl rfl ?_; refine Tr.seq (Tr.rg ?_); refine tO (ok_lss rfl uu rfl uu) rfl rfl ?_; refine TrL.fin (End.nxt (Tr.seq ?_)); refine Tr.cnd rfl ?_ ?_
    · intro h2
      replace h2 := of_decide_eq_true h2
      refine Tr.skip (End.nxt (Tr.seq (Tr.blk (Tr.seq (Tr.rg ?_))))); refine mv rfl rfl rfl ?_; refine tO (ok_idxW rfl uu rfl uu (fun _ => by omega)) rfl rfl ?_; refine TrL.new (ok_alloc 4) rfl rfl rfl rfl ?_; refine mw rfl rfl rfl ?_; refine TrL.stB rfl rfl rfl rfl ?_; refine TrL.fin (End.nxt (Tr.rg ?_)); refine mv rfl rfl rfl ?_; refine tO (ok_ldBS rfl uu) rfl rfl ?_; refine tO (ok_call (fun hp => ct_wminus (nth c k)) (.se rfl uu rfl rfl <| .nil)) rfl rfl ?_; refine tO (ok_fldO rfl uu) rfl rfl ?_; refine tO (ok_idxArrO rfl uu rfl uu (fun _ => by omega)) rfl rfl ?_
      refine TrL.stW (k) (by omega) (by omega) rfl rfl rfl ?_; refine TrL.fin (End.blk (End.nxt (Tr.rg ?_))); refine tO (ok_add rfl uu rfl uu (fun _ => by omega)) rfl rfl ?_; refine mv rfl rfl rfl ?_; refine TrL.fin ?_
      exact End.lp (k + 1) (by first | rfl | omega | simp <;> omega | assumption) (by omega) (Ent.mk (.i rfl (by first | rfl | omega | simp <;> omega | assumption) <| .k rfl rfl <| .k rfl rfl <| .k rfl rfl <| .nil) (.conv (cW (fun j _ => upd_map (F := fun i => -nth c i) (C := fun i => nth c i) rfl) rfl) rfl <| .k rfl <| .nil) rfl)
    · intro h2
      replace h2 := Int.not_lt.1 (of_decide_eq_false h2)
      refine Tr.exit (Exs.thn (Exs.thn (Exs.here ?_)))
      exact End.cut (k) (by omega) (Ent.mk (.i rfl (by first | rfl | omega | simp <;> omega | assumption) <| .k rfl rfl <| .k rfl rfl <| .k rfl rfl <| .nil) (.k rfl <| .k rfl <| .nil) rfl)
  · rintro _ rfl
    refine End.norm (S' := [⟨7, true, _, _⟩, ⟨1, true, _, _⟩, ⟨2, true, _, _⟩, ⟨6, true, _, _⟩]) (M' := [⟨1, _, _⟩, ⟨2, _, _⟩]) rfl rfl ?_; refine End.nxt (Tr.seq (Tr.rg ?_)); refine tO (ok_ldBS rfl uu) rfl rfl ?_; refine TrL.stB rfl rfl rfl rfl ?_; refine TrL.fin (End.nxt (Tr.ret ?_)); exact Rts.resC1 (fn := Tryz.f119) rfl rfl (aggRd rfl (by rw [neg_tab hl]; exact Prod.ext (tab_congr fun i hi => if_pos hi) rfl))

set_option maxRecDepth 100000 in
theorem ct_nplus (x y : List Int × Int) (hx : ∀ i, dl (nth x.1 i) ≤ 300000) (hy : ∀ i, dl (nth y.1 i) ≤ 300000) (hdx : dl x.2 ≤ 300000) (hdy : dl y.2 ≤ 300000) (hpx : 0 < x.2) (hpy : 0 < y.2) : Ct Tryz.prog 118 [kRd eNu x, kRd eNu y] (kRd eNu (adV x y)) := by
  refine Ct.mk Tryz.func118 rfl Tryz.ntmps118 rfl (fun w J => ?_); refine Tr.seq (Tr.rg ?_); refine TrL.new (ok_box 2 rfl uu rfl) rfl rfl rfl rfl ?_; refine TrL.new (ok_box 3 rfl uu rfl) rfl rfl rfl rfl ?_; refine TrL.new (ok_alloc 4) rfl rfl rfl rfl ?_; refine TrL.fin (End.nxt (Tr.seq (Tr.rg ?_))); refine tO (ok_fldO rfl uu) rfl rfl ?_; refine tO (ok_ldBS rfl uu) rfl rfl ?_; refine tO (ok_fldO rfl uu) rfl rfl ?_; refine tO (ok_ldBS rfl uu) rfl rfl ?_; refine tO (ok_call (fun hp => ct_wtimes x.2 y.2 (by omega) (by omega)) (.se rfl uu rfl rfl <| .se rfl uu rfl rfl <| .nil)) rfl rfl ?_
  refine tO (ok_build (fun hp => .cons rfl rfl rfl <| .nil)) rfl rfl ?_; refine TrL.new (ok_alloc 5) rfl rfl rfl rfl ?_; refine TrL.stB rfl rfl rfl rfl ?_; refine TrL.fin (End.nxt (Tr.seq (Tr.seq (Tr.rg ?_)))); refine mv rfl rfl rfl ?_; refine TrL.fin (End.nxt ?_)
  refine Tr.for1 (σ := Nat) [⟨2, true, _, _⟩, ⟨3, true, _, _⟩, ⟨4, true, _, _⟩, ⟨5, true, _, _⟩] [⟨2, _, _⟩, ⟨3, _, _⟩, ⟨4, _, _⟩] (fun k => [⟨13, true, [], kI (k : Int)⟩]) (fun k => [⟨5, [], cBlk (wC (fun i => if i < k then nth x.1 i * y.2 + nth y.1 i * x.2 else 0) 0 4 ++ [kB (decide (x.2 * y.2 < 0)), kRd (eL eI) (digN (x.2 * y.2).natAbs)])⟩]) (fun k => k ≤ 4) (fun k => k = 4) (fun k => 4 - k) (0) (by first | rfl | omega | simp <;> omega | assumption) (Ent.mk (.i rfl (by first | rfl | omega | simp <;> omega | assumption) <| .k rfl rfl <| .k rfl rfl <| .k rfl rfl <| .k rfl rfl <| .nil) (.conv (wC_zero (fun _ _ h => h)) rfl <| .k rfl <| .k rfl <| .k rfl <| .nil) rfl) ?_ ?_
  · intro k hR0
    refine Tr.norm (S' := [⟨13, true, _, _⟩, ⟨2, true, _, _⟩, ⟨3, true, _, _⟩, ⟨4, true, _, _⟩, ⟨5, true, _, _⟩]) (M' := [⟨5, _, _⟩, ⟨2, _, _⟩, ⟨3, _, _⟩, ⟨4, _, _⟩]) rfl rfl ?_
    have h1 := hx k
    have h2 := hy k
    have h3 := dl_mul (nth x.1 k) y.2
    have h4 := dl_mul (nth y.1 k) x.2
    refine Tr.seq (Tr.rg ?_); refine tO (ok_lss rfl uu rfl uu) rfl rfl ?_; refine TrL.fin (End.nxt (Tr.seq ?_)); refine Tr.cnd rfl ?_ ?_
    · intro h3
      replace h3 := of_decide_eq_true h3
      refine Tr.skip (End.nxt (Tr.seq (Tr.blk (Tr.seq (Tr.rg ?_))))); refine mv rfl rfl rfl ?_; refine mw rfl rfl rfl ?_; refine TrL.fin (End.nxt ?_); refine Tr.draw 17 mixed (by kernel_rfl) ?_; refine rO (ok_move rfl uu) rfl rfl ?_; refine rO (ok_move rfl uu) rfl rfl ?_; refine rO (ok_fldO rfl uu) rfl rfl ?_; refine rO (ok_idxArrO rfl uu rfl uu (fun _ => by omega)) rfl rfl ?_; refine rO (ok_ldW (k) (fun _ => by omega) (fun _ => by omega) rfl uu) rfl rfl ?_; refine rO (ok_fldO rfl uu) rfl rfl ?_; refine rO (ok_ldBS rfl uu) rfl rfl ?_
      refine rO (ok_call (fun hp => ct_wtimes (nth x.1 k) y.2 (by omega) (by omega)) (.a rfl uu <| .se rfl uu rfl rfl <| .nil)) rfl rfl ?_; refine rO (ok_move rfl uu) rfl rfl ?_; refine rO (ok_fldO rfl uu) rfl rfl ?_; refine rO (ok_idxArrO rfl uu rfl uu (fun _ => by omega)) rfl rfl ?_; refine rO (ok_ldW (k) (fun _ => by omega) (fun _ => by omega) rfl uu) rfl rfl ?_; refine rO (ok_fldO rfl uu) rfl rfl ?_; refine rO (ok_ldBS rfl uu) rfl rfl ?_; refine rO (ok_call (fun hp => ct_wtimes (nth y.1 k) x.2 (by omega) (by omega)) (.a rfl uu <| .se rfl uu rfl rfl <| .nil)) rfl rfl ?_
      refine rO (ok_call (fun hp => ct_wplus (nth x.1 k * y.2) (nth y.1 k * x.2) (by omega) (by omega)) (.a rfl uu <| .a rfl uu <| .nil)) rfl rfl ?_; refine rO (ok_fldO rfl uu) rfl rfl ?_; refine RunD.z ?_; refine tO (ok_idxArrO rfl uu rfl uu (fun _ => by omega)) rfl rfl ?_; refine TrL.stW (k) (by omega) (by omega) rfl rfl rfl ?_; refine TrL.fin (End.blk (End.nxt (Tr.rg ?_))); refine tO (ok_add rfl uu rfl uu (fun _ => by omega)) rfl rfl ?_; refine mv rfl rfl rfl ?_; refine TrL.fin ?_
      exact End.lp (k + 1) (by first | rfl | omega | simp <;> omega | assumption) (by omega) (Ent.mk (.i rfl (by first | rfl | omega | simp <;> omega | assumption) <| .k rfl rfl <| .k rfl rfl <| .k rfl rfl <| .k rfl rfl <| .nil) (.conv (cW (fun j _ => by simp only [upd]; by_cases e : j = k; (rw [if_pos e, if_pos (by omega), e]); (rw [if_neg e]; by_cases e2 : j < k; (rw [if_pos e2, if_pos (by omega)]); (rw [if_neg e2, if_neg (by omega)]))) rfl) rfl <| .k rfl <| .k rfl <| .k rfl <| .nil) rfl)
    · intro h3
      replace h3 := Int.not_lt.1 (of_decide_eq_false h3)
      refine Tr.exit (Exs.thn (Exs.thn (Exs.here ?_)))
      exact End.cut (k) (by omega) (Ent.mk (.i rfl (by first | rfl | omega | simp <;> omega | assumption) <| .k rfl rfl <| .k rfl rfl <| .k rfl rfl <| .k rfl rfl <| .nil) (.k rfl <| .k rfl <| .k rfl <| .k rfl <| .nil) rfl)
  · rintro _ rfl
    refine End.norm (S' := [⟨13, true, _, _⟩, ⟨2, true, _, _⟩, ⟨3, true, _, _⟩, ⟨4, true, _, _⟩, ⟨5, true, _, _⟩]) (M' := [⟨5, _, _⟩, ⟨2, _, _⟩, ⟨3, _, _⟩, ⟨4, _, _⟩]) rfl rfl ?_; refine End.nxt (Tr.seq (Tr.rg ?_)); refine tO (ok_ldBS rfl uu) rfl rfl ?_; refine tO (ok_call (fun hp => ct_nlowest _ _ (dl_tab fun i hi => by rw [if_pos hi]; exact Nat.le_trans (dl_adV hx hy hdx hdy i) (by omega)) (by have := dl_mul x.2 y.2; omega) (Int.mul_pos hpx hpy)) (.se rfl uu rfl rfl <| .nil)) rfl rfl ?_; refine TrL.stB rfl rfl rfl rfl ?_; refine TrL.fin (End.nxt (Tr.ret ?_)); exact Rts.resC1 (fn := Tryz.f118) rfl rfl (aggRd rfl (by rw [eta4 (by rw [low_len, tab_len])]; unfold adV; exact congrArg (fun l => loN l (x.2 * y.2)) (tab_congr fun i hi => if_pos hi)))

end Go.Fl

/- Numbers of a field: how they are read and handed back; sizes. No program in sight. -/
namespace Go.Fl
open Go
def denN (d : List Int) : Int := if val d = 0 then 1 else val d
theorem denN_ne {d : List Int} : denN d ≠ 0 := by unfold denN; split <;> omega
def takeN (p : List Int) (x : List (List Int) × List Int) : List Int × Int := loN (pad p (x.1.map val)) (denN x.2)
def giveN (v : List Int × Int) : List (List Int) × List Int := ((trimL v.1).map lstZ, lstZ v.2)
def PolOk (p : List Int) : Prop := (2 ≤ p.length ∧ p.length ≤ 5) ∧ ∀ i, dl (nth p i) ≤ 1
structure NumOk (k : Nat) (x : List (List Int) × List Int) : Prop where
  len : x.1.length ≤ 16
  c : ∀ i, InI (nth x.1 i) ∧ (nth x.1 i).length ≤ k
  d : InI x.2 ∧ x.2.length ≤ k
structure NBd (k : Nat) (v : List Int × Int) : Prop where
  c : ∀ i, dl (nth v.1 i) ≤ k
  d : dl v.2 ≤ k
  pos : 0 < v.2
  len : v.1.length = 4
theorem nth_out {α : Type} [Inhabited α] {xs : List α} {i : Nat} (h : xs.length ≤ i) : nth xs i = default := by simp [nth, List.getD, List.getElem?_eq_none h]
theorem nth_mapv {xs : List (List Int)} {i : Nat} : nth (xs.map val) i = val (nth xs i) := by
  by_cases h : i < xs.length
  · simp [nth, h]
  · rw [nth_out (by simpa using h), nth_out (by omega)]; rfl
theorem tab_mapv {xs : List (List Int)} : (tab xs.length fun i => val (nth xs i)) = xs.map val := by
  have h : (xs.map val).length = xs.length := List.length_map ..
  conv => rhs; rw [tab_nth h]
  exact tab_congr fun i _ => nth_mapv.symm
theorem dl_den {d : List Int} {k : Nat} (h : InI d) (hl : d.length ≤ k) : dl (denN d) ≤ k + 3 := by
  unfold denN
  split
  · have := dl_int (n := 1) (by omega); omega
  · have := dl_val h; omega
theorem dl_redF {p : List Int} {n : Nat} (hp : ∀ i, dl (nth p i) ≤ 1) : ∀ {f B : Nat} {xs : List Int}, (∀ i, dl (nth xs i) ≤ B) → ∀ i, dl (nth (redF p n f xs) i) ≤ B + 2 * f
  | 0, B, xs, h, i => by
    rw [redF, nth_app0]
    split
    · have := h i; omega
    · rw [dl_zero.2 rfl]; omega
  | f + 1, B, xs, h, i => by
    rw [redF]
    split
    · rw [nth_app0]
      split
      · have := h i; omega
      · rw [dl_zero.2 rfl]; omega
    · have h1 : ∀ j, dl (nth (red1 p n xs) j) ≤ B + 2 := fun j => by
        unfold red1
        refine dl_tab (fun q _ => ?_) j
        split
        · rw [Int.sub_eq_add_neg]
          have := dl_step (h q) (h (xs.length - 1)) (hp (q - (xs.length - 1 - n)))
          omega
        · rw [Int.sub_zero]; have := h q; omega
      have := dl_redF (n := n) hp h1 i (f := f)
      omega
theorem dl_pad {p xs : List Int} {B : Nat} (hp : ∀ i, dl (nth p i) ≤ 1) (h : ∀ i, dl (nth xs i) ≤ B) (i : Nat) : dl (nth (pad p xs) i) ≤ B + 2 * xs.length := by
  unfold pad
  refine dl_tab (fun j _ => ?_) i
  unfold red
  have := dl_redF hp h j (n := p.length - 1) (f := xs.length - (p.length - 1))
  omega
theorem natAbs_ediv_le {a g : Int} (hg : g ∣ a) : (a / g).natAbs ≤ a.natAbs := by
  obtain ⟨q, rfl⟩ := hg
  by_cases h : g = 0
  · subst h; simp
  · rw [Int.mul_ediv_cancel_left _ h, Int.natAbs_mul]
    exact Nat.le_mul_of_pos_left _ (by omega)
theorem dl_divs {a g : Int} (hg : g ∣ a) : dl (a / g) ≤ dl a := digN_len_le (natAbs_ediv_le hg)
theorem nth_mem' {xs : List Int} {i : Nat} (h : i < xs.length) : nth xs i ∈ xs := by simp [nth, h]
theorem low_NBd {cs : List Int} {d : Int} {k : Nat} (hc : ∀ i, dl (nth cs i) ≤ k) (hd : dl d ≤ k) (h0 : d ≠ 0) (hl : cs.length = 4) : NBd k (loN cs d) := by
  refine ⟨fun i => ?_, ?_, low_pos h0, by rw [low_len, hl]⟩
  · by_cases h : i < cs.length
    · have e : nth (loN cs d).1 i = nth cs i / sgG d cs := by simp [loN, nth, h]
      rw [e]
      exact Nat.le_trans (dl_divs (sgG_dvd (.inr (nth_mem' h)))) (hc i)
    · rw [nth_out (by rw [low_len]; omega)]
      show dl 0 ≤ k
      rw [dl_zero.2 rfl]; omega
  · exact Nat.le_trans (dl_divs (sgG_dvd (.inl rfl))) hd
theorem take_NBd {p : List Int} {x : List (List Int) × List Int} {k : Nat} (hp : PolOk p) (hx : NumOk k x) : NBd (k + 35) (takeN p x) := by
  refine low_NBd (fun i => ?_) ?_ denN_ne pad_len
  · have := dl_pad (xs := x.1.map val) (B := k + 3) hp.2 (fun j => by rw [nth_mapv]; have := dl_val (hx.c j).1; have := (hx.c j).2; omega) i
    rw [List.length_map] at this
    have := hx.len
    omega
  · have := dl_den hx.d.1 hx.d.2; omega
theorem add_NBd {x y : List Int × Int} {j k : Nat} (hx : NBd j x) (hy : NBd k y) : NBd (j + k + 1) (adV x y) := by
  refine low_NBd (dl_tab fun i _ => ?_) ?_ ?_ tab_len
  · have h1 := dl_mul (nth x.1 i) y.2
    have h2 := dl_mul (nth y.1 i) x.2
    have h3 := dl_add (nth x.1 i * y.2) (nth y.1 i * x.2)
    have := hx.c i; have := hy.c i; have := hx.d; have := hy.d
    omega
  · have := dl_mul x.2 y.2; have := hx.d; have := hy.d; omega
  · have := Int.mul_pos hx.pos hy.pos; omega
theorem neg_NBd {x : List Int × Int} {k : Nat} (hx : NBd k x) : NBd k (x.1.map fun z => -z, x.2) := by
  refine ⟨fun i => ?_, hx.d, hx.pos, by simp [hx.len]⟩
  rw [neg_tab hx.len]
  exact dl_tab (fun j _ => by rw [dl_neg]; exact hx.c j) i
def ratB (c : List Int) : Bool := !(((tab 4 (nth c)).take 4).drop 1).any fun z => decide (cmpZ z 0 ≠ 0)
theorem ratB_of {c : List Int} (h : ∀ i, 1 ≤ i → i < 4 → nth c i = 0) : ratB c = true := by
  have e : tab 4 (nth c) = [nth c 0, nth c 1, nth c 2, nth c 3] := rfl
  unfold ratB
  rw [e, h 1 (by omega) (by omega), h 2 (by omega) (by omega), h 3 (by omega) (by omega)]
  rfl
theorem ratB_iff {c : List Int} : ratB c = true ↔ ∀ i, 1 ≤ i → i < 4 → nth c i = 0 := by
  refine ⟨fun h => ?_, ratB_of⟩
  have e : tab 4 (nth c) = [nth c 0, nth c 1, nth c 2, nth c 3] := rfl
  unfold ratB at h
  rw [e] at h
  simp only [List.take_succ_cons, List.take_zero, List.drop_succ_cons, List.drop_zero, List.any_cons, List.any_nil, Bool.or_false, Bool.not_eq_true', Bool.or_eq_false_iff, decide_eq_false_iff_not, Classical.not_not, ne_eq] at h
  intro i h1 h2
  obtain ⟨q1, q2, q3⟩ := h
  rcases (show i = 1 ∨ i = 2 ∨ i = 3 by omega) with rfl | rfl | rfl
  · exact cmpZ_z.1 q1
  · exact cmpZ_z.1 q2
  · exact cmpZ_z.1 q3
theorem nth_low {cs : List Int} {d : Int} {i : Nat} (h : i < cs.length) : nth (loN cs d).1 i = nth cs i / sgG d cs := by simp [loN, nth, h]
theorem ratB_add {x y : List Int × Int} (hx : ratB x.1 = true) (hy : ratB y.1 = true) : ratB (adV x y).1 = true := by
  refine ratB_of fun i h1 h2 => ?_
  unfold adV
  rw [nth_low (by rw [tab_len]; exact h2), nth_tab h2, ratB_iff.1 hx i h1 h2, ratB_iff.1 hy i h1 h2]
  simp
theorem ratB_neg {c : List Int} (h : ratB c = true) : ratB (c.map fun z => -z) = true := by
  refine ratB_of fun i h1 h2 => ?_
  by_cases hl : i < c.length
  · simp only [nth, List.getD, List.getElem?_map, List.getElem?_eq_getElem hl, Option.map_some, Option.getD_some]
    have := ratB_iff.1 h i h1 h2
    simp only [nth, List.getD, List.getElem?_eq_getElem hl, Option.getD_some] at this
    omega
  · rw [nth_out (by rw [List.length_map]; omega)]; rfl
theorem giveN_eq {c : List Int} {d : Int} {n : Nat} (h : trimL c = c.take n) : (tab n (fun i => lstZ (nth c i)), lstZ d) = giveN (c, d) ∨ c.length < n := by
  by_cases hn : n ≤ c.length
  · left
    unfold giveN
    rw [h]
    refine Prod.ext ?_ rfl
    have hl : (c.take n).length = n := by rw [List.length_take]; omega
    show _ = (c.take n).map lstZ
    conv => rhs; rw [tab_nth hl]
    simp only [tab, List.map_map]
    refine List.map_congr_left fun i hi => ?_
    have hi : i < n := List.mem_range.1 hi
    simp [Function.comp, nth_take' hi]
  · right; omega
theorem dl_four {n : Int} {k : Nat} (h : dl n ≤ 3) (i : Nat) : dl (nth [n, 0, 0, 0] i) ≤ k + 3 := by
  match i with
  | 0 => show dl n ≤ _; omega
  | 1 => show dl 0 ≤ _; rw [dl_zero.2 rfl]; omega
  | 2 => show dl 0 ≤ _; rw [dl_zero.2 rfl]; omega
  | 3 => show dl 0 ≤ _; rw [dl_zero.2 rfl]; omega
  | i + 4 => rw [nth_out (by simp)]; show dl 0 ≤ _; rw [dl_zero.2 rfl]; omega
theorem ratB_pad {p xs : List Int} {d : Int} (hp : p.length = 2) : ratB (loN (pad p xs) d).1 = true := by
  refine ratB_of fun i h1 h2 => ?_
  have e : nth (loN (pad p xs) d).1 i = nth (pad p xs) i / sgG d (pad p xs) := by simp [loN, nth, pad_len, h2]
  rw [e, nth_pad h2, nth_out (by rw [red_len, hp]; omega)]
  simp
end Go.Fl

/- Contracts: numbers of a field (reading, handing back; sums, differences; signs of fractions). -/
namespace Go.Fl
open Go Go.Proofs
open TrL renaming op → tO
open RunD renaming op → rO

set_option maxRecDepth 100000 in
theorem ct_IndexFuncW (xs : List Int) (f : FuncId) (q : Int → Bool) [TyFn Tryz.prog f] (hf : ∀ z, Ct Tryz.prog f [kRd eW (wh z)] (kB (q z))) : Ct Tryz.prog 209 [kRd (eL eZ) xs, kDet (.func (.func f) #[] #[])] (kI (idxF q xs)) := by
  refine Ct.mk Tryz.func209 rfl Tryz.ntmps209 rfl (fun w J => ?_); refine Tr.fact (s := 0) rfl (fun _ _ h => lenB h) (fun hb => ?_); refine Tr.seq (Tr.rg ?_); refine mw rfl rfl rfl ?_; refine TrL.fin (End.nxt (Tr.seq (Tr.seq (Tr.rg ?_)))); refine mv rfl rfl rfl ?_; refine tO (ok_lenJ rfl uu) rfl rfl ?_; refine mv rfl rfl rfl ?_; refine TrL.fin (End.nxt ?_)
  refine Tr.for1 (σ := Nat) [⟨0, true, _, _⟩, ⟨1, true, _, _⟩, ⟨7, true, _, _⟩] [] (fun k => [⟨8, true, [], kI (k : Int)⟩]) (fun k => []) (fun k => k ≤ xs.length ∧ ∀ i, i < k → q (nth xs i) = false) (fun k => ∀ i, i < xs.length → q (nth xs i) = false) (fun k => xs.length - k) (0) ⟨by omega, fun i h => absurd h (by omega)⟩ (Ent.mk (.i rfl (by first | rfl | omega | simp <;> omega | assumption) <| .k rfl rfl <| .k rfl rfl <| .k rfl rfl <| .nil) (.nil) rfl) ?_ ?_
  · rintro k ⟨hk, hR⟩
    refine Tr.norm (S' := [⟨8, true, _, _⟩, ⟨0, true, _, _⟩, ⟨1, true, _, _⟩, ⟨7, true, _, _⟩]) (M' := []) rfl rfl ?_; refine Tr.seq (Tr.rg ?_); refine tO (ok_lss rfl uu rfl uu) rfl rfl ?_; refine TrL.fin (End.nxt (Tr.seq ?_)); refine Tr.cnd rfl ?_ ?_
    · intro h2
      replace h2 := of_decide_eq_true h2
      refine Tr.skip (End.nxt (Tr.seq (Tr.blk (Tr.seq (Tr.rg ?_))))); refine mv rfl rfl rfl ?_; refine mw rfl rfl rfl ?_; refine TrL.fin (End.nxt (Tr.seq (Tr.rg ?_))); refine mv rfl rfl rfl ?_; refine mv rfl rfl rfl ?_; refine mv rfl rfl rfl ?_
      first | refine tO (ok_idxN rfl uu rfl uu rfl (fun _ => by omega)) rfl rfl ?_ | refine tO (ok_idxP rfl uu rfl uu rfl (fun _ => by omega)) rfl rfl ?_
      refine tO (ok_ldPA rfl uu rfl rfl) rfl rfl ?_; refine tO (ok_callV rfl uu (fun hp => hf _) (.a rfl uu <| .nil)) rfl rfl ?_; refine TrL.fin (End.nxt ?_); refine Tr.cnd rfl ?_ ?_
      · intro h4
        refine Tr.seq (Tr.rg ?_); refine mv rfl rfl rfl ?_; refine mw rfl rfl rfl ?_; refine TrL.fin (End.nxt (Tr.ret (Rts.out (Rts.thn (Rts.thn (Rts.out (Rts.thn (Rts.thn ?_)))))))); exact Rts.res1 (fn := Tryz.f209) rfl (.i rfl (idxF_at (by omega) hR h4) <| .nil)
      · intro h4
        refine Tr.skip (End.blk (End.nxt (Tr.rg ?_))); refine tO (ok_add rfl uu rfl uu (fun _ => by omega)) rfl rfl ?_; refine mv rfl rfl rfl ?_; refine TrL.fin ?_
        exact End.lp (k + 1) ⟨by omega, fun i hi => by (rcases Nat.lt_succ_iff_lt_or_eq.1 hi with h | h; exact hR i h; subst h; exact h4)⟩ (by omega) (Ent.mk (.i rfl (by first | rfl | omega | simp <;> omega | assumption) <| .k rfl rfl <| .k rfl rfl <| .k rfl rfl <| .nil) (.nil) rfl)
    · intro h2
      replace h2 := Int.not_lt.1 (of_decide_eq_false h2)
      refine Tr.exit (Exs.thn (Exs.thn (Exs.here ?_)))
      exact End.cut (k) (fun i hi => hR i (by omega)) (Ent.mk (.i rfl (by first | rfl | omega | simp <;> omega | assumption) <| .k rfl rfl <| .k rfl rfl <| .k rfl rfl <| .nil) (.nil) rfl)
  · intro k hE
    refine End.norm (S' := [⟨8, true, _, _⟩, ⟨0, true, _, _⟩, ⟨1, true, _, _⟩, ⟨7, true, _, _⟩]) (M' := []) rfl rfl ?_; refine End.nxt (Tr.seq (Tr.rg ?_)); refine mw rfl rfl rfl ?_; refine TrL.fin (End.nxt (Tr.ret ?_)); exact Rts.res1 (fn := Tryz.f209) rfl (.i rfl (idxF_none hE) <| .nil)

set_option maxRecDepth 100000 in
theorem ct_ContainsFuncW (xs : List Int) (f : FuncId) (q : Int → Bool) [TyFn Tryz.prog f] (hf : ∀ z, Ct Tryz.prog f [kRd eW (wh z)] (kB (q z))) : Ct Tryz.prog 190 [kRd (eL eZ) xs, kDet (.func (.func f) #[] #[])] (kB (xs.any q)) := by
  refine Ct.mk Tryz.func190 rfl Tryz.ntmps190 rfl (fun w J => ?_); refine Tr.seq (Tr.rg ?_); refine mw rfl rfl rfl ?_; refine TrL.fin (End.nxt (Tr.seq (Tr.rg ?_))); refine mv rfl rfl rfl ?_; refine mv rfl rfl rfl ?_; refine tO (ok_call (fun hp => ct_IndexFuncW _ f q hf) (.a rfl uu <| .a rfl uu <| .nil)) rfl rfl ?_; refine tO (ok_geq rfl uu rfl uu) rfl rfl ?_; refine mw rfl rfl rfl ?_; refine TrL.fin (End.nxt (Tr.ret ?_)); exact Rts.res1 (fn := Tryz.f190) rfl (.b rfl idxF_nonneg <| .nil)

set_option maxRecDepth 100000 in
theorem ct_rational1 (z : Int) : Ct Tryz.prog 191 [kRd eW (wh z)] (kB (decide (cmpZ z 0 ≠ 0))) := by
  refine Ct.mk Tryz.func191 rfl Tryz.ntmps191 rfl (fun w J => ?_); refine Tr.seq (Tr.rg ?_); refine TrL.new (ok_box 1 rfl uu rfl) rfl rfl rfl rfl ?_; refine mw rfl rfl rfl ?_; refine TrL.fin (End.nxt (Tr.seq (Tr.rg ?_))); refine tO (ok_ldBS rfl uu) rfl rfl ?_; refine tO (ok_call (fun hp => ct_wsign z) (.se rfl uu rfl rfl <| .nil)) rfl rfl ?_; refine tO (ok_neq rfl uu rfl uu) rfl rfl ?_; refine mw rfl rfl rfl ?_; refine TrL.fin (End.nxt (Tr.ret ?_))
  exact Rts.res1 (fn := Tryz.f191) rfl (.b rfl (by first | rfl | omega | simp <;> omega | assumption) <| .nil)

set_option maxRecDepth 100000 in
theorem ct_rational (c : List Int) (d : Int) : Ct Tryz.prog 157 [kRd eNu (c, d)] (kB (ratB c)) := by
  refine Ct.mk Tryz.func157 rfl Tryz.ntmps157 rfl (fun w J => ?_); refine Tr.seq (Tr.rg ?_); refine TrL.new (ok_box 1 rfl uu rfl) rfl rfl rfl rfl ?_; refine mw rfl rfl rfl ?_; refine TrL.fin (End.nxt (Tr.seq ?_)); refine Tr.frzB 1 [1] eNu ⟨rfl, trivial⟩ rfl ?_; refine Tr.norm (S' := ⟨_, _, _, _⟩ :: ⟨_, _, _, _⟩ :: ⟨_, _, _, _⟩ :: ⟨_, _, _, _⟩ :: []) (M' := []) rfl rfl ?_; refine Tr.rg ?_; refine tO (ok_fldP rfl uu rfl) rfl rfl ?_; refine tO (ok_slArrPl rfl uu rfl uu rfl rfl (fun _ => by omega)) rfl rfl ?_; refine tO (ok_call (fun hp => ct_ContainsFuncW _ 191 (fun z => decide (cmpZ z 0 ≠ 0)) (fun z => ct_rational1 z)) (.a rfl uu <| .a rfl uu <| .nil)) rfl rfl ?_
  refine tO (ok_not rfl uu) rfl rfl ?_; refine mw rfl rfl rfl ?_; refine TrL.fin (End.nxt (Tr.ret ?_)); exact Rts.res1 (fn := Tryz.f157) rfl (.b rfl (by rfl) <| .nil)

set_option maxRecDepth 100000 in
theorem ct_signQ (r : RlT) (c : List Int) (d : Int) (hq : ratB c = true) : Ct Tryz.prog 114 [kPtr eReal r, kRd eNu (c, d)] (kI (cmpZ (nth c 0) 0)) := by
  refine Ct.mk Tryz.func114 rfl Tryz.ntmps114 rfl (fun w J => ?_); refine Tr.fact (s := 1) rfl (fun _ _ h => eNu_len h) (fun hl => ?_)
  have hl : c.length = 4 := hl
  refine Tr.seq (Tr.rg ?_); refine TrL.new (ok_box 3 rfl uu rfl) rfl rfl rfl rfl ?_; refine mw rfl rfl rfl ?_; refine TrL.fin (End.nxt (Tr.seq (Tr.seq (Tr.rg ?_)))); refine tO (ok_ldBS rfl uu) rfl rfl ?_; refine tO (ok_call (fun hp => ct_rational c d) (.se rfl uu rfl (eta4 (v := (c, d)) hl) <| .nil)) rfl rfl ?_; refine TrL.fin (End.nxt ?_); refine Tr.cnd rfl ?_ ?_
  · intro h1
    refine Tr.seq (Tr.rg ?_); refine tO (ok_fldO rfl uu) rfl rfl ?_; refine tO (ok_idxArrO rfl uu rfl uu (fun _ => by decide)) rfl rfl ?_; refine tO (ok_ldW (0) (fun _ => by omega) (fun _ => by omega) rfl uu) rfl rfl ?_; refine tO (ok_call (fun hp => ct_wsign (nth c 0)) (.a rfl uu <| .nil)) rfl rfl ?_; refine mw rfl rfl rfl ?_; refine TrL.fin (End.nxt (Tr.ret (Rts.thn ?_))); exact Rts.res1 (fn := Tryz.f114) rfl (.i rfl (by rfl) <| .nil)
  · intro h1
    rw [hq] at h1; cases h1

set_option maxRecDepth 100000 in
theorem ct_take (r : RlT) (x : NumT) (k : Nat) (hpo : PolOk r.2.1) (hx : NumOk k x) (hk : k ≤ 500000) : Ct Tryz.prog 115 [kPtr eReal r, kRd eNum x] (kRd eNu (takeN r.2.1 x)) := by
  have hdx := dl_val hx.d.1
  have hld := hx.d.2
  have hlx := hx.len
  have hdd := dl_den hx.d.1 hx.d.2
  refine Ct.mk Tryz.func115 rfl Tryz.ntmps115 rfl (fun w J => ?_); refine Tr.seq (Tr.rg ?_); refine TrL.new (ok_box 3 rfl uu rfl) rfl rfl rfl rfl ?_; refine TrL.new (ok_alloc 4) rfl rfl rfl rfl ?_; refine TrL.fin (End.nxt (Tr.seq (Tr.rg ?_))); refine mw rfl rfl rfl ?_; refine TrL.fin (End.nxt (Tr.seq (Tr.seq (Tr.rg ?_)))); refine tO (ok_fldO rfl uu) rfl rfl ?_; refine tO (ok_ldB rfl uu rfl) rfl rfl ?_; refine tO (ok_lenJ rfl uu) rfl rfl ?_; refine mv rfl rfl rfl ?_; refine TrL.fin (End.nxt ?_); refine Tr.grow (s := 5) rfl rfl 55 rfl 160 eZ rfl ?_
  refine Tr.for1 (σ := Nat) [⟨0, true, _, _⟩, ⟨3, true, _, _⟩, ⟨4, true, _, _⟩, ⟨10, true, _, _⟩, ⟨11, true, _, _⟩] [⟨3, _, _⟩, ⟨4, _, _⟩] (fun k2 => [⟨5, true, [55], kOsl 55 k2⟩, ⟨12, true, [], kI (k2 : Int)⟩]) (fun k2 => [⟨55, [], cArr true 160 eZ (tab k2 fun i => val (nth x.1 i)) k2⟩]) (fun k2 => k2 ≤ x.1.length) (fun k2 => k2 = x.1.length) (fun k2 => x.1.length - k2) (0) (by first | rfl | omega | simp <;> omega | assumption) (Ent.mk (.o rfl (by first | rfl | omega | simp <;> omega | assumption) rfl <| .i rfl (by first | rfl | omega | simp <;> omega | assumption) <| .k rfl rfl <| .k rfl rfl <| .k rfl rfl <| .k rfl rfl <| .k rfl rfl <| .nil) (.a (by rfl) (by first | rfl | omega | simp <;> omega | assumption) <| .k rfl <| .k rfl <| .nil) rfl) ?_ ?_
  · intro k2 hR0
    refine Tr.norm (S' := [⟨5, true, _, _⟩, ⟨12, true, _, _⟩, ⟨0, true, _, _⟩, ⟨3, true, _, _⟩, ⟨4, true, _, _⟩, ⟨10, true, _, _⟩, ⟨11, true, _, _⟩]) (M' := [⟨55, _, _⟩, ⟨3, _, _⟩, ⟨4, _, _⟩]) rfl rfl ?_
    have hck := hx.c k2
    refine Tr.seq (Tr.rg ?_); refine tO (ok_lss rfl uu rfl uu) rfl rfl ?_; refine TrL.fin (End.nxt (Tr.seq ?_)); refine Tr.cnd rfl ?_ ?_
    · intro h3
      replace h3 := of_decide_eq_true h3
      refine Tr.skip (End.nxt (Tr.seq (Tr.blk (Tr.seq (Tr.rg ?_)))))
      first | refine tO (ok_idxN rfl uu rfl uu rfl (fun _ => by omega)) rfl rfl ?_ | refine tO (ok_idxP rfl uu rfl uu rfl (fun _ => by omega)) rfl rfl ?_
      refine tO (ok_ldP rfl uu rfl) rfl rfl ?_; refine mw rfl rfl rfl ?_; refine TrL.fin (End.nxt (Tr.rg ?_)); refine mv rfl rfl rfl ?_; refine mv rfl rfl rfl ?_; refine tO (ok_call (fun hp => ct_fread _ hck.1 (by omega)) (.a rfl uu <| .nil)) rfl rfl ?_; refine TrL.new (ok_bsl eZ 19 (fun hp => .cons rfl <| .nil) rfl rfl rfl rfl) rfl rfl rfl rfl ?_
      refine TrL.app rfl rfl rfl rfl rfl rfl rfl rfl (by first | omega | (simp only [List.length_cons, List.length_nil]; omega)) (by first | omega | (simp only [List.length_cons, List.length_nil]; omega)) ?_
      refine TrL.norm (S' := [⟨_, _, _, _⟩, ⟨_, _, _, _⟩, ⟨_, _, _, _⟩, ⟨_, _, _, _⟩, ⟨_, _, _, _⟩, ⟨_, _, _, _⟩, ⟨_, _, _, _⟩, ⟨_, _, _, _⟩, ⟨_, _, _, _⟩, ⟨_, _, _, _⟩, ⟨_, _, _, _⟩, ⟨_, _, _, _⟩, ⟨_, _, _, _⟩, ⟨_, _, _, _⟩, ⟨_, _, _, _⟩, ⟨_, _, _, _⟩]) rfl rfl ?_; refine mw rfl rfl rfl ?_; refine TrL.fin (End.blk (End.nxt (Tr.rg ?_))); refine tO (ok_add rfl uu rfl uu (fun _ => by omega)) rfl rfl ?_; refine mv rfl rfl rfl ?_; refine TrL.fin ?_
      exact End.lp (k2 + 1) (by first | rfl | omega | simp <;> omega | assumption) (by omega) (Ent.mk (.o rfl (by first | rfl | omega | simp <;> omega | assumption) rfl <| .i rfl (by first | rfl | omega | simp <;> omega | assumption) <| .k rfl rfl <| .k rfl rfl <| .k rfl rfl <| .k rfl rfl <| .k rfl rfl <| .nil) (.a tab_succ.symm (by first | rfl | omega | simp <;> omega | assumption) <| .k rfl <| .k rfl <| .nil) rfl)
    · intro h3
      replace h3 := Int.not_lt.1 (of_decide_eq_false h3)
      refine Tr.exit (Exs.thn (Exs.thn (Exs.here ?_)))
      exact End.cut (k2) (by omega) (Ent.mk (.o rfl (by first | rfl | omega | simp <;> omega | assumption) rfl <| .i rfl (by first | rfl | omega | simp <;> omega | assumption) <| .k rfl rfl <| .k rfl rfl <| .k rfl rfl <| .k rfl rfl <| .k rfl rfl <| .nil) (.k rfl <| .k rfl <| .k rfl <| .nil) rfl)
  · rintro _ rfl
    refine End.norm (S' := [⟨5, true, _, _⟩, ⟨12, true, _, _⟩, ⟨0, true, _, _⟩, ⟨3, true, _, _⟩, ⟨4, true, _, _⟩, ⟨10, true, _, _⟩, ⟨11, true, _, _⟩]) (M' := [⟨55, _, _⟩, ⟨3, _, _⟩, ⟨4, _, _⟩]) rfl rfl ?_
    have hcm := tab_mapv (xs := x.1)
    refine End.nxt (Tr.seq (Tr.rg ?_)); refine tO (ok_fldO rfl uu) rfl rfl ?_; refine tO (ok_ldB rfl uu rfl) rfl rfl ?_; refine tO (ok_call (fun hp => ct_fread _ hx.d.1 (by omega)) (.a rfl uu <| .nil)) rfl rfl ?_; refine TrL.new (ok_alloc 8) rfl rfl rfl rfl ?_; refine TrL.stB rfl rfl rfl rfl ?_; refine TrL.fin (End.nxt (Tr.seq (Tr.seq (Tr.rg ?_)))); refine tO (ok_ldBS rfl uu) rfl rfl ?_; refine tO (ok_call (fun hp => ct_wsign (val x.2)) (.se rfl uu rfl rfl <| .nil)) rfl rfl ?_; refine tO (ok_eql rfl uu rfl uu) rfl rfl ?_; refine TrL.fin (End.nxt ?_); refine Tr.cnd rfl ?_ ?_
    · intro h8
      replace h8 := of_decide_eq_true h8
      have hv0 := cmpZ_z.1 h8
      refine Tr.rg ?_; refine tO (ok_call (fun hp => ct_fsmall 1 (by omega)) (.a rfl uu <| .nil)) rfl rfl ?_; refine TrL.stB rfl rfl rfl rfl ?_; refine TrL.fin (End.nxt (Tr.seq (Tr.rg ?_))); refine mv rfl rfl rfl ?_; refine mv rfl rfl rfl ?_; refine tO (ok_ldBS rfl uu) rfl rfl ?_; refine TrL.frz 55 [5, 30] ⟨rfl, rfl, trivial⟩ (by simp only [lenMax]; omega) rfl ?_; refine TrL.norm (S' := [⟨_, _, _, _⟩, ⟨_, _, _, _⟩, ⟨_, _, _, _⟩, ⟨_, _, _, _⟩, ⟨_, _, _, _⟩, ⟨_, _, _, _⟩, ⟨_, _, _, _⟩, ⟨_, _, _, _⟩, ⟨_, _, _, _⟩, ⟨_, _, _, _⟩, ⟨_, _, _, _⟩, ⟨_, _, _, _⟩, ⟨_, _, _, _⟩, ⟨_, _, _, _⟩, ⟨_, _, _, _⟩, ⟨_, _, _, _⟩, ⟨_, _, _, _⟩, ⟨_, _, _, _⟩, ⟨_, _, _, _⟩, ⟨_, _, _, _⟩]) rfl rfl ?_
      refine tO (ok_call (fun hp => ct_reduced r _ (denN x.2) (k + 3) hpo.1 (by rw [tab_len]; omega) (dl_tab fun i _ => by have := dl_val (hx.c i).1; have := (hx.c i).2; omega) hpo.2 (by omega) (by omega) denN_ne) (.a rfl uu <| .a rfl uu <| .se rfl uu rfl (by first | (rw [denN, if_pos hv0]; rfl) | (rw [denN, if_neg hv0]; rfl)) <| .nil)) rfl rfl ?_
      refine TrL.stB rfl rfl rfl rfl ?_; refine TrL.fin (End.nxt (Tr.ret ?_)); exact Rts.resC1 (fn := Tryz.f115) rfl rfl (aggRd rfl (by rw [eta4 (by rw [low_len, pad_len]), hcm]; rfl))
    · intro h8
      replace h8 := of_decide_eq_false h8
      have hv0 : val x.2 ≠ 0 := fun e => h8 (cmpZ_z.2 e)
      refine Tr.skip (End.nxt (Tr.seq (Tr.rg ?_))); refine mv rfl rfl rfl ?_; refine mv rfl rfl rfl ?_; refine tO (ok_ldBS rfl uu) rfl rfl ?_; refine TrL.frz 55 [5, 30] ⟨rfl, rfl, trivial⟩ (by simp only [lenMax]; omega) rfl ?_; refine TrL.norm (S' := [⟨_, _, _, _⟩, ⟨_, _, _, _⟩, ⟨_, _, _, _⟩, ⟨_, _, _, _⟩, ⟨_, _, _, _⟩, ⟨_, _, _, _⟩, ⟨_, _, _, _⟩, ⟨_, _, _, _⟩, ⟨_, _, _, _⟩, ⟨_, _, _, _⟩, ⟨_, _, _, _⟩, ⟨_, _, _, _⟩, ⟨_, _, _, _⟩, ⟨_, _, _, _⟩, ⟨_, _, _, _⟩, ⟨_, _, _, _⟩, ⟨_, _, _, _⟩, ⟨_, _, _, _⟩, ⟨_, _, _, _⟩]) rfl rfl ?_
      refine tO (ok_call (fun hp => ct_reduced r _ (denN x.2) (k + 3) hpo.1 (by rw [tab_len]; omega) (dl_tab fun i _ => by have := dl_val (hx.c i).1; have := (hx.c i).2; omega) hpo.2 (by omega) (by omega) denN_ne) (.a rfl uu <| .a rfl uu <| .se rfl uu rfl (by first | (rw [denN, if_pos hv0]; rfl) | (rw [denN, if_neg hv0]; rfl)) <| .nil)) rfl rfl ?_
      refine TrL.stB rfl rfl rfl rfl ?_; refine TrL.fin (End.nxt (Tr.ret ?_)); exact Rts.resC1 (fn := Tryz.f115) rfl rfl (aggRd rfl (by rw [eta4 (by rw [low_len, pad_len]), hcm]; rfl))

end Go.Fl
