/- Laws on walking typed knowledge through code, and contracts. -/
import Derived.Test.YthfaleobmefibaaGreatM3
import Derived.Laws.CopyRow
import Derived.RangeFuncBox
import Derived.WalkKit
import Derived.TacticsInMore
import Derived.LoopNIn
import Derived.LoopIn

/- Contracts: integers of the reference of chapter 1. -/
namespace Go.Fl
open Go Go.Proofs
open TrL renaming op → tO
open RunD renaming op → rO
set_option maxRecDepth 100000

theorem ct_rsplit (n : Int) (hn : -9223372036854775808 ≤ n ∧ n ≤ 9223372036854775807) : Ct Tryz.prog 174 [kI n] (kTup [kI (n / 100000000), kI (n % 100000000)]) := by
 obtain ⟨hq1, hq2, hq3⟩ := td8 n
 refine Ct.mk Tryz.func174 rfl Tryz.ntmps174 rfl (fun w J => ?_); refine jx9 ?_; refine tO (ok_quo rfl uu rfl uu (fun _ => zo)) rfl rfl ?_; refine jx1 ?_; refine tO (ok_rem rfl uu rfl uu (fun _ => zo)) rfl rfl ?_; refine jx11 ?_; refine jq ?_ ?_
 ·intro h2
  refine jx12 ?_; exact Rts.res (fn := Tryz.f174) (ts := [2, 3]) rfl rfl (.i rfl zo <| .i rfl zo <| .nil)
 ·intro h2
  replace h2 := Int.not_lt.1 h2
  refine jx11 ?_; exact Rts.res (fn := Tryz.f174) (ts := [2, 3]) rfl rfl (.i rfl zo <| .i rfl zo <| .nil)

theorem ct_rtrim (xs : List Int) (hn : xs.length ≤ 10000000) : Ct Tryz.prog 175 [kRd (eL eI) xs] (kRd (eL eI) (trimL xs)) := by
 refine Ct.mk Tryz.func175 rfl Tryz.ntmps175 rfl (fun w J => ?_); refine jx12 ?_
 refine Tr.for (σ := Nat) [⟨0, true, _, _⟩] [] (fun m => [⟨3, true, [], kI (m : Int)⟩]) (fun m => []) (fun m => m ≤ xs.length ∧ ∀ i, m ≤ i → i < xs.length → nth xs i = 0) (fun m => m ≤ xs.length ∧ trimL xs = xs.take m) (fun m => m) (xs.length) ⟨by omega, fun i h1 h2 => absurd h1 zo⟩ (Ent.mk (.i rfl zi <| zk) (.nil) rfl) ?_ ?_
 ·rintro m ⟨hm, hz⟩
  refine jn ?_
  have e1 : 0 < m → ((m : Int) - 1).toNat = m - 1 := fun h => by omega
  refine jx8 ?_; refine TrL.gd rfl rfl rfl (ok_sub rfl id rfl uu (fun hp => by simp at hp; omega)) rfl rfl ?_
  first | refine TrL.gd rfl rfl rfl (ok_idxN rfl id rfl id rfl (fun hp => by simp at hp; omega)) rfl rfl ?_ | refine TrL.gd rfl rfl rfl (ok_idxP rfl id rfl id rfl (fun hp => by simp at hp; omega)) rfl rfl ?_
  refine jx5 ?_; refine Tr.cnd rfl ?_ ?_
  ·intro h2
   try simp only [decide_eq_true_eq, Bool.and_eq_true] at h2
   refine jx9 ?_
   exact End.lp (m - 1) ⟨by omega, fun i h3 h4 => by (by_cases e : i = m - 1; subst e; rw [← e1 zo]; exact h2.2; exact hz i zo h4)⟩ zo (Ent.mk (.i rfl zi <| zk) (.nil) rfl)
  ·intro h2
   try simp only [decide_eq_true_eq, decide_eq_false_iff_not, Bool.and_eq_false_imp] at h2
   refine jx4 ?_
   exact End.cut (m) ⟨hm, trim_take hm hz (by by_cases e : m = 0; exact .inl e; exact .inr (by rw [← e1 zo]; exact h2 zo))⟩ (Ent.mk (.i rfl zi <| zk) (.nil) rfl)
 ·rintro m ⟨hm, hE⟩
  refine jn ?_
  have htl := trim_len (xs := xs)
  have hz0 : ([] : List Int).length = 0 := rfl
  have htk : (xs.take m).length = m := by rw [List.length_take]; omega
  have e2 : ((m : Nat) : Int).toNat = m := rfl
  refine jx2 ?_; refine TrL.new (ok_bsl0 eI 18) rfl rfl rfl rfl ?_; refine jx2 ?_; refine tO (ok_slJh rfl uu rfl uu (fun _ => zo)) rfl rfl ?_; refine TrL.app rfl rfl rfl rfl rfl rfl rfl rfl (by rw [e2]; omega) (by rw [e2]; omega) ?_; refine jl ?_; refine jx3 ?_; refine Tr.frz 18 [2] ⟨rfl, trivial⟩ (by rw [e2]; simp only [lenMax]; omega) rfl ?_; refine jx1 ?_; exact Rts.res1 (fn := Tryz.f175) rfl (.r rfl (by rw [List.nil_append, hE]; rfl) <| .nil)

theorem ct_rtrimN (xs : List Int) (hn : xs.length ≤ 10000000) : CtN Tryz.prog 175 [kRd (eL eI) xs] (fun t => kOsl t (trimL xs).length) (cArr false 3 eI (trimL xs) (trimL xs).length) := by
 refine CtN.mk Tryz.func175 rfl Tryz.ntmps175 rfl (fun w J => ?_); refine jx12 ?_
 refine Tr.for (σ := Nat) [⟨0, true, _, _⟩] [] (fun m => [⟨3, true, [], kI (m : Int)⟩]) (fun m => []) (fun m => m ≤ xs.length ∧ ∀ i, m ≤ i → i < xs.length → nth xs i = 0) (fun m => m ≤ xs.length ∧ trimL xs = xs.take m) (fun m => m) (xs.length) ⟨by omega, fun i h1 h2 => absurd h1 zo⟩ (Ent.mk (.i rfl zi <| zk) (.nil) rfl) ?_ ?_
 ·rintro m ⟨hm, hz⟩
  refine jn ?_
  have e1 : 0 < m → ((m : Int) - 1).toNat = m - 1 := fun h => by omega
  refine jx8 ?_; refine TrL.gd rfl rfl rfl (ok_sub rfl id rfl uu (fun hp => by simp at hp; omega)) rfl rfl ?_
  first | refine TrL.gd rfl rfl rfl (ok_idxN rfl id rfl id rfl (fun hp => by simp at hp; omega)) rfl rfl ?_ | refine TrL.gd rfl rfl rfl (ok_idxP rfl id rfl id rfl (fun hp => by simp at hp; omega)) rfl rfl ?_
  refine jx5 ?_; refine Tr.cnd rfl ?_ ?_
  ·intro h2
   try simp only [decide_eq_true_eq, Bool.and_eq_true] at h2
   refine jx9 ?_
   exact End.lp (m - 1) ⟨by omega, fun i h3 h4 => by (by_cases e : i = m - 1; subst e; rw [← e1 zo]; exact h2.2; exact hz i zo h4)⟩ zo (Ent.mk (.i rfl zi <| zk) (.nil) rfl)
  ·intro h2
   try simp only [decide_eq_true_eq, decide_eq_false_iff_not, Bool.and_eq_false_imp] at h2
   refine jx4 ?_
   exact End.cut (m) ⟨hm, trim_take hm hz (by by_cases e : m = 0; exact .inl e; exact .inr (by rw [← e1 zo]; exact h2 zo))⟩ (Ent.mk (.i rfl zi <| zk) (.nil) rfl)
 ·rintro m ⟨hm, hE⟩
  refine jn ?_
  have htl := trim_len (xs := xs)
  have hz0 : ([] : List Int).length = 0 := rfl
  have htk : (xs.take m).length = m := by rw [List.length_take]; omega
  have e2 : ((m : Nat) : Int).toNat = m := rfl
  refine jx2 ?_; refine TrL.new (ok_bsl0 eI 18) rfl rfl rfl rfl ?_; refine jx2 ?_; refine tO (ok_slJh rfl uu rfl uu (fun _ => zo)) rfl rfl ?_; refine TrL.app rfl rfl rfl rfl rfl rfl rfl rfl (by rw [e2]; omega) (by rw [e2]; omega) ?_; refine jl ?_; refine jx4 ?_; exact Rts.resN (fn := Tryz.f175) (u := 18) rfl rfl (arr_res (by rw [List.nil_append, hE]; rfl) (by rw [hE, e2]; omega)) (osl_res (by rw [hE, e2]; omega)) inferInstance

theorem ct_rsigned (xs : List Int) (neg : Bool) (hn : xs.length ≤ 10000000) (hx : SmI xs) : Ct Tryz.prog 176 [kRd (eL eI) xs, kB neg] (kRd (eL eI) (sgL xs neg)) := by
 have htl := trim_len (xs := xs)
 refine Ct.mk Tryz.func176 rfl Tryz.ntmps176 rfl (fun w J => ?_); refine jx8 ?_; refine TrL.new (ok_callN 8 (fun hp => ct_rtrimN _ zo) (.a rfl uu <| .nil)) rfl rfl rfl rfl ?_; refine jx9 ?_
 refine Tr.for1 (σ := Nat) [⟨1, true, _, _⟩, ⟨5, true, _, _⟩] [] (fun i => [⟨6, true, [], kI (i : Int)⟩]) (fun i => [⟨8, [], cArr false 3 eI (ngT (trimL xs) i) (trimL xs).length⟩]) (fun i => i ≤ (trimL xs).length ∧ (0 < i → neg = true)) (fun i => i ≤ (trimL xs).length ∧ ngT (trimL xs) i = sgL xs neg) (fun i => (trimL xs).length - i) (0) ⟨by omega, fun h => absurd h zo⟩ (Ent.mk (.i rfl zi <| zk) (.a ngT_zero zi <| .nil) rfl) ?_ ?_
 ·rintro i ⟨hi, hg⟩
  refine jn ?_
  have hat := fun (h : i < (trimL xs).length) => ngT_at (ds := trimL xs) (k := i) h
  have hxi := fun (h : i < (trimL xs).length) => hx _ (trim_mem (nth_mem h))
  refine jx5 ?_; refine tO (ok_lenO rfl uu) rfl rfl ?_; refine jx6 ?_; refine Tr.cnd rfl ?_ ?_
  ·intro h3
   try simp only [decide_eq_true_eq, Bool.and_eq_true] at h3
   refine jx11 ?_; refine tO (ok_neg rfl uu (fun _ => zo)) rfl rfl ?_; refine jx10 ?_
   exact End.lp (i + 1) ⟨by omega, fun _ => h3.2⟩ zo (Ent.mk (.i rfl zi <| zk) (.a (ngT_succ zo) zi <| .nil) rfl)
  ·intro h3
   try simp only [decide_eq_true_eq, Bool.and_eq_false_imp] at h3
   refine jx4 ?_
   exact End.cut (i) ⟨hi, sgL_end hi hg (fun hh => h3 zo)⟩ (Ent.mk (.i rfl zi <| zk) (.a zi zi <| .nil) rfl)
 ·rintro i ⟨hi, hE⟩
  refine je ?_; refine jx7 ?_; refine Tr.frz 8 [4] ⟨rfl, trivial⟩ (by simp only [lenMax]; omega) rfl ?_; refine jx1 ?_; exact Rts.res1 (fn := Tryz.f176) rfl (.r rfl hE <| .nil)

set_option maxHeartbeats 1000000 in
theorem ct_rNormal (xs : List Int) (hx : InI xs) (hn : xs.length ≤ 1000000) : Ct Tryz.prog 128 [kRd (eL eI) xs] (kRd (eL eI) (lstZ (val xs))) := by
 have h1l : ([1] : List Int).length = 1 := rfl
 refine Ct.mk Tryz.func128 rfl Tryz.ntmps128 rfl (fun w J => ?_); refine jx21 ?_; refine Tr.grow (s := 3) rfl rfl 3 rfl 3 eI rfl ?_
 refine Tr.for1 (σ := Nat) [⟨0, true, _, _⟩] [] (fun i => [⟨5, true, [], kI (i : Int)⟩, ⟨3, true, [3], kOsl 3 i⟩, ⟨4, true, [], kI (rdS xs i).2⟩]) (fun i => [⟨3, [], cArr true 3 eI (rdS xs i).1 i⟩]) (fun i => i ≤ xs.length) (fun i => i = xs.length) (fun i => xs.length - i) (0) (Nat.zero_le _) (Ent.mk (.i rfl zi <| .o rfl zi rfl <| .i rfl zi <| zk) (.a zi zi <| .nil) rfl) ?_ ?_
 ·intro i hR0
  refine jn ?_
  have hc1 := rdS_c hx (i := i)
  have hxx := hx i
  have hs := rdS_split (xs := xs) (i := i)
  have hxi := fun (h : i < xs.length) => xAt_in h
  refine jx9 ?_; refine jq ?_ ?_
  ·intro h4
   refine jx10 ?_; refine tO (ok_call (fun hp => ct_rsplit _ (by have := hxx zo; omega)) (.a rfl uu <| .nil)) rfl rfl ?_; refine jx12 ?_; refine tO (ok_call (fun hp => ct_rsplit _ zo) (.a rfl uu <| .nil)) rfl rfl ?_; refine jx11 ?_; refine TrL.new (ok_bsl eI 39 (fun hp => .cons rfl <| .nil) rfl rfl rfl rfl) rfl rfl rfl rfl ?_; refine jx1 ?_; refine jl ?_; refine jx16 ?_
   exact End.lp (i + 1) zi zo (Ent.mk (.i rfl zi <| .o rfl zi rfl <| .i rfl (by rw [← hs.1, hxi zo]) <| zk) (.a (by rw [rdS, ← hs.2, hxi zo]) zi <| .nil) rfl)
  ·intro h4
   replace h4 := Int.not_lt.1 h4
   refine jx4 ?_
   exact End.cut (i) zo (Ent.mk (.i rfl zi <| .o rfl zi rfl <| .i rfl zi <| zk) (.a zi zi <| .nil) rfl)
 ·rintro _ rfl
  refine je ?_; refine jx1 ?_
  refine Tr.for (σ := Nat) [] [] (fun i => [⟨3, true, [3], kOsl 3 i⟩, ⟨4, true, [], kI (rdS xs i).2⟩]) (fun i => [⟨3, [], cArr true 3 eI (rdS xs i).1 i⟩]) (fun i => xs.length ≤ i ∧ (i = xs.length ∨ (i = xs.length + 1 ∧ (rdS xs i).2.natAbs ≤ 2000) ∨ (i = xs.length + 2 ∧ ((rdS xs i).2 = 0 ∨ (rdS xs i).2 = -1)))) (fun i => xs.length ≤ i ∧ ((rdS xs i).2 = 0 ∨ (rdS xs i).2 = -1) ∧ i ≤ xs.length + 2) (fun i => xs.length + 2 - i) (xs.length) ⟨zo, zo⟩ (Ent.mk (.o rfl zi rfl <| .i rfl zi <| .nil) (.a zi zi <| .nil) rfl) ?_ ?_
  ·rintro i ⟨hi, hm⟩
   refine jn ?_
   have hc1 := rdS_c hx (i := i)
   have hxo := xAt_out (xs := xs) (i := i) zo
   have hs2 : (rdS xs (i + 1)).2 = (xAt xs i + (rdS xs i).2) / 100000000 := rfl
   rw [hxo, Int.zero_add] at hs2
   have hrl : (rdS xs i).1.length = i := rdS_len
   refine jx11 ?_; refine Tr.cnd rfl ?_ ?_
   ·intro h10
    try simp only [decide_eq_true_eq, Bool.and_eq_true, ne_eq] at h10
    refine jx6 ?_; refine tO (ok_call (fun hp => ct_rsplit _ zo) (.a rfl uu <| .nil)) rfl rfl ?_; refine jx11 ?_; refine TrL.new (ok_bsl eI 57 (fun hp => .cons rfl <| .nil) rfl rfl rfl rfl) rfl rfl rfl rfl ?_; refine jx1 ?_; refine jl ?_; refine jx8 ?_
    exact End.lp (i + 1) ⟨zo, zo⟩ zo (Ent.mk (.o rfl zi rfl <| .i rfl hs2.symm <| .nil) (.a (by rw [rdS, hxo, Int.zero_add]) zi <| .nil) rfl)
   ·intro h10
    try simp only [decide_eq_true_eq, decide_eq_false_iff_not, Bool.and_eq_false_imp, ne_eq, Classical.not_not] at h10
    refine jx4 ?_
    exact End.cut (i) ⟨hi, by omega, by omega⟩ (Ent.mk (.o rfl zi rfl <| .i rfl zi <| .nil) (.a zi zi <| .nil) rfl)
  ·rintro i ⟨hi, hc, hb⟩
   refine jn ?_
   have hrl : (rdS xs i).1.length = i := rdS_len
   refine jx7 ?_; refine jq ?_ ?_
   ·intro h14
    refine jx3 ?_; refine TrL.frz 3 [3, 62] ⟨rfl, rfl, trivial⟩ (by simp only [lenMax]; omega) rfl ?_; refine jl ?_; refine tO (ok_call (fun hp => ct_rtrim _ zo) (.a rfl uu <| .nil)) rfl rfl ?_; refine jx5 ?_; exact Rts.res1 (fn := Tryz.f128) rfl (.r rfl (nm_pos hi h14) <| .nil)
   ·intro h14
    refine jx18 ?_; refine Tr.grow (s := 12) rfl rfl 12 rfl 3 eI rfl ?_
    refine Tr.for1 (σ := Nat) [⟨3, true, _, _⟩] [⟨3, _, _⟩] (fun k => [⟨14, true, [], kI (k : Int)⟩, ⟨12, true, [12], kOsl 12 k⟩, ⟨13, true, [], kI (bw (rdS xs i).1 k)⟩]) (fun k => [⟨12, [], cArr true 3 eI (tab k (cmD (rdS xs i).1)) k⟩]) (fun k => k ≤ i) (fun k => k = i) (fun k => i - k) (0) (Nat.zero_le _) (Ent.mk (.i rfl zi <| .o rfl zi rfl <| .i rfl zi <| zk) (.a zi zi <| zk) rfl) ?_ ?_
    ·intro k hR2
     refine jn ?_
     have hl : (rdS xs i).1.length = i := rdS_len
     have hd := fun (h : k < i) => (rdS_dg (xs := xs) (i := i)).at (i := k) zo
     have hb01 := bw_01 (ds := (rdS xs i).1) (k := k)
     have hbs := bw_cm (ds := (rdS xs i).1) (k := k)
     refine jx5 ?_; refine tO (ok_lenO rfl uu) rfl rfl ?_; refine jx3 ?_; refine jq ?_ ?_
     ·intro h19
      refine jx10 ?_; refine tO (ok_neg rfl uu (fun _ => zo)) rfl rfl ?_; refine jx17 ?_; refine jq ?_ ?_
      ·intro h23
       refine jx10 ?_; refine TrL.new (ok_bsl eI 83 (fun hp => .cons rfl <| .nil) rfl rfl rfl rfl) rfl rfl rfl rfl ?_; refine jx1 ?_; refine jl ?_; refine jx9 ?_
       exact End.lp (k + 1) zi zo (Ent.mk (.i rfl zi <| .o rfl zi rfl <| .i rfl (by rw [hbs, if_pos h23]) <| zk) (.a (by rw [tab_succ]; congr 2; unfold cmD; rw [if_pos h23]) zi <| zk) rfl)
      ·intro h23
       replace h23 := Int.not_lt.1 h23
       refine jx5 ?_; refine TrL.new (ok_bsl eI 83 (fun hp => .cons rfl <| .nil) rfl rfl rfl rfl) rfl rfl rfl rfl ?_; refine jx1 ?_; refine jl ?_; refine jx9 ?_
       exact End.lp (k + 1) zi zo (Ent.mk (.i rfl zi <| .o rfl zi rfl <| .i rfl (by rw [hbs, if_neg zo]) <| zk) (.a (by rw [tab_succ]; congr 2; unfold cmD; rw [if_neg zo]) zi <| zk) rfl)
     ·intro h19
      replace h19 := Int.not_lt.1 h19
      refine jx4 ?_
      exact End.cut (k) zo (Ent.mk (.i rfl zi <| .o rfl zi rfl <| .i rfl zi <| zk) (.a zi zi <| zk) rfl)
    ·rintro _ rfl
     refine je ?_; refine jx8 ?_; refine jq ?_ ?_
     ·intro h26
      refine jx2 ?_; refine TrL.new (ok_bsl eI 88 (fun hp => .cons rfl <| .nil) rfl rfl rfl rfl) rfl rfl rfl rfl ?_; refine jx1 ?_; refine jl ?_; refine jx6 ?_; refine TrL.frz 12 [12, 89, 90] ⟨rfl, rfl, rfl, trivial⟩ (by simp only [lenMax]; omega) rfl ?_; refine jl ?_
      refine tO (ok_call (fun hp => ct_rsigned _ true (by first | (rw [tab_len]; omega) | (rw [List.length_append, tab_len]; omega)) (by first | exact (cm_dg rdS_dg rdS_len.symm).sm | exact ((cm_dg rdS_dg rdS_len.symm).snoc zo zo).sm)) (.a rfl uu <| .a rfl uu <| .nil)) rfl rfl ?_
      refine jx4 ?_; exact Rts.res1 (fn := Tryz.f128) rfl (.r rfl (nm_neg0 hi zo zo) <| .nil)
     ·intro h26
      refine jx5 ?_; refine TrL.frz 12 [12, 90] ⟨rfl, rfl, trivial⟩ (by simp only [lenMax]; omega) rfl ?_; refine jl ?_
      refine tO (ok_call (fun hp => ct_rsigned _ true (by first | (rw [tab_len]; omega) | (rw [List.length_append, tab_len]; omega)) (by first | exact (cm_dg rdS_dg rdS_len.symm).sm | exact ((cm_dg rdS_dg rdS_len.symm).snoc zo zo).sm)) (.a rfl uu <| .a rfl uu <| .nil)) rfl rfl ?_
      refine jx4 ?_; exact Rts.res1 (fn := Tryz.f128) rfl (.r rfl (nm_neg1 hi zo zo) <| .nil)

end Go.Fl

/- Contracts: integers of the reference of chapter 1 (signs, sums, products). -/
namespace Go.Fl
open Go Go.Proofs
open TrL renaming op → tO
open RunD renaming op → rO
set_option maxRecDepth 100000

theorem ct_rNegative (z : Int) : Ct Tryz.prog 129 [kRd (eL eI) (lstZ z)] (kB (decide (z < 0))) := by
 refine Ct.mk Tryz.func129 rfl Tryz.ntmps129 rfl (fun w J => ?_); refine Tr.fact (s := 0) rfl (fun _ _ h => lenB h) (fun hb => ?_); refine jx14 ?_; refine TrL.gd rfl rfl rfl (ok_sub rfl id rfl uu (fun hp => by simp at hp; omega)) rfl rfl ?_
 first | refine TrL.gd rfl rfl rfl (ok_idxN rfl id rfl id rfl (fun hp => by simp at hp; omega)) rfl rfl ?_ | refine TrL.gd rfl rfl rfl (ok_idxP rfl id rfl id rfl (fun hp => by simp at hp; omega)) rfl rfl ?_
 refine jx7 ?_; exact Rts.res1 (fn := Tryz.f129) rfl (.b rfl (neg_of fun h => lst_last h) <| .nil)

theorem ct_rsize (z : Int) (hn : dl z ≤ 10000000) : Ct Tryz.prog 178 [kRd (eL eI) (lstZ z)] (kRd (eL eI) (digN z.natAbs)) := by
 refine Ct.mk Tryz.func178 rfl Tryz.ntmps178 rfl (fun w J => ?_); refine jx9 ?_; refine tO (ok_call (fun hp => ct_rNegative _) (.a rfl uu <| .nil)) rfl rfl ?_; refine tO (ok_call (fun hp => ct_rsigned _ _ (by rw [lst_len]; exact hn) (lst_sm z)) (.a rfl uu <| .a rfl uu <| .nil)) rfl rfl ?_; refine jx4 ?_; exact Rts.res1 (fn := Tryz.f178) rfl (.r rfl (sg_size z) <| .nil)

theorem ct_rzless (a b : List Int) (ha : Nm a) (hb : Nm b) (hm : a.length ≤ 10000000) (_ : b.length ≤ 10000000) : Ct Tryz.prog 198 [kRd (eL eI) a, kRd (eL eI) b] (kB (decide (val a < val b))) := by
 refine Ct.mk Tryz.func198 rfl Tryz.ntmps198 rfl (fun w J => ?_); refine jx15 ?_; refine jq ?_ ?_
 ·intro h1
  refine jx12 ?_; exact Rts.res1 (fn := Tryz.f198) rfl (.b rfl (less_len ha hb zo) <| .nil)
 ·intro h1
  replace h1 := Classical.not_not.1 h1
  refine jx11 ?_
  refine Tr.for1 (σ := Nat) [⟨0, true, _, _⟩, ⟨1, true, _, _⟩] [] (fun i => [⟨5, true, [], kI ((i : Int) - 1)⟩]) (fun i => []) (fun i => i ≤ a.length ∧ ∀ j, i ≤ j → j < a.length → nth a j = nth b j) (fun i => i = 0 ∧ ∀ j, i ≤ j → j < a.length → nth a j = nth b j) (fun i => i) (a.length) ⟨by omega, fun j h1 h2 => absurd h1 zo⟩ (Ent.mk (.i rfl zi <| zk) (.nil) rfl) ?_ ?_
  ·rintro i ⟨hi, hR⟩
   refine jn ?_
   have e1 : ((i : Int) - 1).toNat = i - 1 := by omega
   refine jx7 ?_; refine jq ?_ ?_
   ·intro h4
    refine jx5 ?_; refine Tr.draw 8 mixed (by kernel_rfl) ?_; refine jx12 ?_; refine jq ?_ ?_
    ·intro h6
     refine jx1 ?_; refine Tr.draw 8 mixed (by kernel_rfl) ?_; refine jx20 ?_; exact Rts.res1 (fn := Tryz.f198) rfl (.b rfl (by rw [e1]; exact less_at ha.dg hb.dg zo zo (fun j h1 h2 => hR j zo h2) (by rw [← e1]; exact h6)) <| .nil)
    ·intro h6
     replace h6 := Classical.not_not.1 h6
     refine jx8 ?_
     exact End.lp (i - 1) ⟨by omega, fun j h1 h2 => by (by_cases e : j = i - 1; subst e; rw [← e1]; exact h6; exact hR j zo h2)⟩ zo (Ent.mk (.i rfl zi <| zk) (.nil) rfl)
   ·intro h4
    replace h4 := Int.not_le.1 h4
    refine jx4 ?_
    exact End.cut (i) ⟨by omega, hR⟩ (Ent.mk (.i rfl zi <| zk) (.nil) rfl)
  ·rintro i ⟨hi, hR⟩
   refine je ?_; refine jx7 ?_; exact Rts.res1 (fn := Tryz.f198) rfl (.b rfl (by subst hi; exact less_all zo hR) <| .nil)

set_option maxHeartbeats 1000000 in
theorem ct_rAdd (xs ys : List Int) (hx : InI xs) (hy : InI ys) (hn : xs.length ≤ 900000) (hm : ys.length ≤ 900000) : Ct Tryz.prog 122 [kRd (eL eI) xs, kRd (eL eI) ys] (kRd (eL eI) (lstZ (val xs + val ys))) := by
 have hdx := dl_val hx
 have hdy := dl_val hy
 have hlx := lst_len (val xs)
 have hly := lst_len (val ys)
 refine Ct.mk Tryz.func122 rfl Tryz.ntmps122 rfl (fun w J => ?_); refine jx8 ?_; refine tO (ok_call (fun hp => ct_rNormal _ (by assumption) zo) (.a rfl uu <| .nil)) rfl rfl ?_; refine jx1 ?_; refine tO (ok_call (fun hp => ct_rNormal _ (by assumption) zo) (.a rfl uu <| .nil)) rfl rfl ?_; refine jx15 ?_; refine Tr.grow (s := 5) rfl rfl 5 rfl 3 eI rfl ?_
 refine Tr.for1 (σ := Nat) [⟨0, true, _, _⟩, ⟨1, true, _, _⟩] [] (fun i => [⟨5, true, [5], kOsl 5 i⟩, ⟨6, true, [], kI (i : Int)⟩]) (fun i => [⟨5, [], cArr true 3 eI (adX (lstZ (val xs)) (lstZ (val ys)) i) i⟩]) (fun i => i ≤ max (lstZ (val xs)).length (lstZ (val ys)).length) (fun i => i = max (lstZ (val xs)).length (lstZ (val ys)).length) (fun i => max (lstZ (val xs)).length (lstZ (val ys)).length - i) (0) zo (Ent.mk (.o rfl zi rfl <| .i rfl zi <| zk) (.a zi zi <| .nil) rfl) ?_ ?_
 ·intro i hR0
  refine jn ?_
  have hbx := fun (h : i < (lstZ (val xs)).length) => lst_bd h
  have hby := fun (h : i < (lstZ (val ys)).length) => lst_bd h
  have hxi := fun (h : i < (lstZ (val xs)).length) => xAt_in h
  have hyi := fun (h : i < (lstZ (val ys)).length) => xAt_in h
  have hxo := fun (h : ¬ i < (lstZ (val xs)).length) => xAt_out h
  have hyo := fun (h : ¬ i < (lstZ (val ys)).length) => xAt_out h
  refine jx15 ?_; refine Tr.cnd rfl ?_ ?_
  ·intro h4
   try simp only [decide_eq_true_eq, Bool.or_eq_true] at h4
   refine jx9 ?_; refine Tr.meet2 (σ := Unit) [⟨0, true, _, _⟩, ⟨1, true, _, _⟩, ⟨5, true, _, _⟩, ⟨6, true, _, _⟩] [⟨5, _, _⟩] (zk) (zk) (fun _ => [⟨7, true, [], kI (xAt (lstZ (val xs)) i)⟩]) (fun _ => []) (fun _ => True) ?_ ?_
   ·skip
    refine jx8 ?_; refine jq ?_ ?_
    ·intro h7
     refine jx7 ?_
     exact End.cut (()) zi (Ent.mk (.i rfl (hxi zo).symm <| zk) (zk) rfl)
    ·intro h7
     replace h7 := Int.not_lt.1 h7
     refine jx1 ?_
     exact End.cut (()) zi (Ent.mk (.i rfl (hxo zo).symm <| zk) (zk) rfl)
   ·intro _ hM
    refine jn ?_; refine Tr.meet2 (σ := Unit) [⟨0, true, _, _⟩, ⟨1, true, _, _⟩, ⟨5, true, _, _⟩, ⟨6, true, _, _⟩] [⟨5, _, _⟩] (zk) (zk) (fun _ => [⟨7, true, [], kI (xAt (lstZ (val xs)) i + xAt (lstZ (val ys)) i)⟩]) (fun _ => []) (fun _ => True) ?_ ?_
    ·skip
     refine jx8 ?_; refine jq ?_ ?_
     ·intro h9
      refine jx1 ?_
      have hxb : -100000000 < xAt (lstZ (val xs)) i ∧ xAt (lstZ (val xs)) i < 100000000 := by (by_cases hh : i < (lstZ (val xs)).length; rw [hxi hh]; exact hbx hh; rw [hxo hh]; omega)
      refine jx8 ?_
      exact End.cut (()) zi (Ent.mk (.i rfl (by rw [hyi zo]) <| zk) (zk) rfl)
     ·intro h9
      replace h9 := Int.not_lt.1 h9
      refine jx1 ?_
      exact End.cut (()) zi (Ent.mk (.i rfl (by rw [hyo zo, Int.add_zero]) <| zk) (zk) rfl)
    ·intro _ hM
     refine jn ?_; refine jx3 ?_; refine TrL.new (ok_bsl eI 44 (fun hp => .cons rfl <| .nil) rfl rfl rfl rfl) rfl rfl rfl rfl ?_; refine jx1 ?_; refine jl ?_; refine jx9 ?_
     exact End.lp (i + 1) zo zo (Ent.mk (.o rfl zi rfl <| .i rfl zi <| zk) (.a (by unfold adX; rw [tab_succ]) zi <| .nil) rfl)
  ·intro h4
   try simp only [decide_eq_false_iff_not, Bool.or_eq_false_iff, Int.not_lt] at h4
   refine jx4 ?_
   exact End.cut (i) zo (Ent.mk (.o rfl zi rfl <| .i rfl zi <| zk) (.a zi zi <| .nil) rfl)
 ·rintro _ rfl
  refine je ?_
  have hxl := Nat.le_max_left (lstZ (val xs)).length (lstZ (val ys)).length
  have hyl := Nat.le_max_right (lstZ (val xs)).length (lstZ (val ys)).length
  have hal : (adX (lstZ (val xs)) (lstZ (val ys)) (max (lstZ (val xs)).length (lstZ (val ys)).length)).length = max (lstZ (val xs)).length (lstZ (val ys)).length := tab_len
  refine jx4 ?_; refine TrL.frz 5 [5, 46] ⟨rfl, rfl, trivial⟩ (by simp only [lenMax]; omega) rfl ?_; refine jl ?_; refine tO (ok_call (fun hp => ct_rNormal _ adX_in zo) (.a rfl uu <| .nil)) rfl rfl ?_; refine jx4 ?_; exact Rts.res1 (fn := Tryz.f122) rfl (.r rfl (by rw [adX_val hxl hyl, lst_val, lst_val]) <| .nil)

theorem ct_rNeg (xs : List Int) (hx : InI xs) (hn : xs.length ≤ 1000000) : Ct Tryz.prog 136 [kRd (eL eI) xs] (kRd (eL eI) (lstZ (-val xs))) := by
 have hdx := dl_val hx
 refine Ct.mk Tryz.func136 rfl Tryz.ntmps136 rfl (fun w J => ?_); refine jx8 ?_; refine tO (ok_call (fun hp => ct_rNormal _ (by assumption) zo) (.a rfl uu <| .nil)) rfl rfl ?_; refine tO (ok_call (fun hp => ct_rsigned _ true (by rw [lst_len]; omega) (lst_sm _)) (.a rfl uu <| .a rfl uu <| .nil)) rfl rfl ?_; refine jx4 ?_; exact Rts.res1 (fn := Tryz.f136) rfl (.r rfl (sg_neg _) <| .nil)

theorem ct_rSub (xs ys : List Int) (hx : InI xs) (hy : InI ys) (hn : xs.length ≤ 800000) (hm : ys.length ≤ 800000) : Ct Tryz.prog 145 [kRd (eL eI) xs, kRd (eL eI) ys] (kRd (eL eI) (lstZ (val xs - val ys))) := by
 have hdx := dl_val hx
 have hdy := dl_val hy
 have hlx := lst_len (val xs)
 have hly := lst_len (val ys)
 refine Ct.mk Tryz.func145 rfl Tryz.ntmps145 rfl (fun w J => ?_); refine jx9 ?_; refine tO (ok_call (fun hp => ct_rNeg _ (by assumption) zo) (.a rfl uu <| .nil)) rfl rfl ?_; refine tO (ok_call (fun hp => ct_rAdd xs (lstZ (-val ys)) (by assumption) (lst_in _) zo (by rw [lst_len, dl_neg]; omega)) (.a rfl uu <| .a rfl uu <| .nil)) rfl rfl ?_; refine jx4 ?_; exact Rts.res1 (fn := Tryz.f145) rfl (.r rfl (by rw [lst_val, Int.sub_eq_add_neg]) <| .nil)

set_option maxHeartbeats 1000000 in
theorem ct_rMul (xs ys : List Int) (hx : InI xs) (hy : InI ys) (hn : xs.length ≤ 400000) (hm : ys.length ≤ 400000) : Ct Tryz.prog 123 [kRd (eL eI) xs, kRd (eL eI) ys] (kRd (eL eI) (lstZ (val xs * val ys))) := by
 have hdx := dl_val hx
 have hdy := dl_val hy
 have hlx := lst_len (val xs)
 have hly := lst_len (val ys)
 refine Ct.mk Tryz.func123 rfl Tryz.ntmps123 rfl (fun w J => ?_); refine jx8 ?_; refine tO (ok_call (fun hp => ct_rNormal _ (by assumption) zo) (.a rfl uu <| .nil)) rfl rfl ?_; refine jx1 ?_; refine tO (ok_call (fun hp => ct_rNormal _ (by assumption) zo) (.a rfl uu <| .nil)) rfl rfl ?_; refine jx15 ?_
 refine Tr.for1 (σ := Nat) [⟨0, true, _, _⟩, ⟨1, true, _, _⟩] [] (fun i => [⟨6, true, [], kI (i : Int)⟩, ⟨5, true, [], kRd (eL eI) (lstZ (val ((lstZ (val xs)).take i) * val (lstZ (val ys))))⟩]) (fun i => []) (fun i => i ≤ (lstZ (val xs)).length) (fun i => i = (lstZ (val xs)).length) (fun i => (lstZ (val xs)).length - i) (0) (Nat.zero_le _) (Ent.mk (.i rfl zi <| .n rfl (by simp [val, lst_zero]) <| zk) (.nil) rfl) ?_ ?_
 ·intro i hR0
  refine jn ?_
  have hbx := fun (h : i < (lstZ (val xs)).length) => lst_bd h
  have hdo := dl_mul (val ((lstZ (val xs)).take i)) (val (lstZ (val ys)))
  have hdt := dl_val ((lst_in (val xs)).take i)
  have htl : ((lstZ (val xs)).take i).length ≤ i := by rw [List.length_take]; omega
  have hdv : dl (val (lstZ (val ys))) = dl (val ys) := by rw [lst_val]
  refine jx9 ?_; refine jq ?_ ?_
  ·intro h4
   refine jx7 ?_; refine TrL.new (ok_makeN eI 20 rfl uu rfl uu rfl rfl rfl (fun _ => zo)) rfl rfl rfl rfl ?_; refine jx9 ?_
   refine Tr.for1 (σ := Nat) [⟨0, true, _, _⟩, ⟨1, true, _, _⟩, ⟨5, true, _, _⟩, ⟨6, true, _, _⟩] [] (fun k => [⟨8, true, [], kI (k : Int)⟩, ⟨7, true, [20], kOsl 20 (i + k)⟩]) (fun k => [⟨20, [], cArr false 3 eI (mrow (lstZ (val xs)) (lstZ (val ys)) i k) (i + k)⟩]) (fun k => k ≤ (lstZ (val ys)).length) (fun k => k = (lstZ (val ys)).length) (fun k => (lstZ (val ys)).length - k) (0) (Nat.zero_le _) (Ent.mk (.i rfl zi <| .o rfl zi rfl <| zk) (.a mrow_zero zi <| .nil) rfl) ?_ ?_
   ·intro k hR1
    refine jn ?_
    have hby := fun (h : k < (lstZ (val ys)).length) => lst_bd h
    have hb := fun (h : i < (lstZ (val xs)).length) (h2 : k < (lstZ (val ys)).length) => mul_bd (lst_bd h) (lst_bd h2)
    refine jx9 ?_; refine jq ?_ ?_
    ·intro h8
     refine jx4 ?_; refine Tr.draw 11 mixed (by kernel_rfl) ?_
     have hbb := hb zo zo
     refine jx10 ?_; refine RunD.new (ok_bsl eI 37 (fun hp => .cons rfl <| .nil) rfl rfl rfl rfl) rfl rfl rfl rfl ?_; refine jx2 ?_; refine jl ?_; refine jx9 ?_
     exact End.lp (k + 1) zi zo (Ent.mk (.i rfl zi <| .o rfl zi rfl <| zk) (.a mrow_succ zi <| .nil) rfl)
    ·intro h8
     replace h8 := Int.not_lt.1 h8
     refine jx4 ?_
     exact End.cut (k) zo (Ent.mk (.i rfl zi <| .o rfl zi rfl <| zk) (.a zi zi <| .nil) rfl)
   ·rintro _ rfl
    refine je ?_
    have hrl := mrow_len (xs := (lstZ (val xs))) (ys := (lstZ (val ys))) (i := i) (k := (lstZ (val ys)).length)
    refine jx4 ?_; refine TrL.frz 20 [7, 40] ⟨rfl, rfl, trivial⟩ (by simp only [lenMax]; omega) rfl ?_; refine jl ?_; refine tO (ok_call (fun hp => ct_rAdd _ (mrow (lstZ (val xs)) (lstZ (val ys)) i (lstZ (val ys)).length) (lst_in _) (mrow_in zo (Nat.le_refl _)) (by rw [lst_len]; omega) (by rw [hrl]; omega)) (.a rfl uu <| .a rfl uu <| .nil)) rfl rfl ?_; refine jx9 ?_
    exact End.lp (i + 1) zi zo (Ent.mk (.i rfl zi <| .r rfl (by rw [lst_val, mul_step zo]) <| zk) (.nil) rfl)
  ·intro h4
   replace h4 := Int.not_lt.1 h4
   refine jx4 ?_
   exact End.cut (i) zo (Ent.mk (.i rfl zi <| .r rfl zi <| zk) (.nil) rfl)
 ·rintro _ rfl
  refine je ?_
  have hfin : val ((lstZ (val xs)).take (lstZ (val xs)).length) = val xs := by rw [List.take_length, lst_val]
  refine jx4 ?_; refine tO (ok_call (fun hp => ct_rNormal _ (lst_in _) (by rw [lst_len, hfin, lst_val]; have := dl_mul (val xs) (val ys); omega)) (.a rfl uu <| .nil)) rfl rfl ?_; refine jx4 ?_; exact Rts.res1 (fn := Tryz.f123) rfl (.r rfl (by rw [hfin, lst_val, lst_val]) <| .nil)

theorem ct_rSign (xs : List Int) (hx : InI xs) (hn : xs.length ≤ 1000000) : Ct Tryz.prog 75 [kRd (eL eI) xs] (kI (cmpZ (val xs) 0)) := by
 have hl0 := lst_len0 (z := val xs)
 refine Ct.mk Tryz.func75 rfl Tryz.ntmps75 rfl (fun w J => ?_); refine jx8 ?_; refine tO (ok_call (fun hp => ct_rNormal _ (by assumption) zo) (.a rfl uu <| .nil)) rfl rfl ?_; refine jx11 ?_; refine jq ?_ ?_
 ·intro h2
  refine jx7 ?_; exact Rts.res1 (fn := Tryz.f75) rfl (.i rfl (cmpZ_eq zo).symm <| .nil)
 ·intro h2
  refine jx6 ?_; refine tO (ok_call (fun hp => ct_rNegative _) (.a rfl uu <| .nil)) rfl rfl ?_; refine jx2 ?_; refine Tr.cnd rfl ?_ ?_
  ·intro h4
   refine jx7 ?_; exact Rts.res1 (fn := Tryz.f75) rfl (.i rfl (cmpZ_lt (of_decide_eq_true h4)).symm <| .nil)
  ·intro h4
   refine jx8 ?_; exact Rts.res1 (fn := Tryz.f75) rfl (.i rfl (cmpZ_gt (by have := of_decide_eq_false h4; omega)).symm <| .nil)

end Go.Fl

/- Contracts: the rational field is one. -/
namespace Go.Fl
open Go Go.Proofs
open TrL renaming op → tO
open RunD renaming op → rO
set_option maxRecDepth 100000

abbrev FdT := List Int × Int × Int × Int
def eFd : Enc FdT := eC (fun v : FdT => (v.1, v.2.1, v.2.2.1, v.2.2.2, ())) (eP (eL eI) (eP eI (eP eI (eP eI eU))))
instance {v : FdT} : CellsK (kRd eFd v) [kRd (eL eI) (v.1), kI (v.2.1), kI (v.2.2.1), kI (v.2.2.2)] := inferInstanceAs (CellsK (kRd (eC (fun v : FdT => (v.1, v.2.1, v.2.2.1, v.2.2.2, ())) (eP (eL eI) (eP eI (eP eI (eP eI eU))))) v) _)
instance {v : FdT} {tl : List Know} : EncCells eFd v tl (kRd (eL eI) (v.1) :: kI (v.2.1) :: kI (v.2.2.1) :: kI (v.2.2.2) :: tl) := inferInstanceAs (EncCells (eC (fun v : FdT => (v.1, v.2.1, v.2.2.1, v.2.2.2, ())) (eP (eL eI) (eP eI (eP eI (eP eI eU))))) v tl _)
instance {v : FdT} : Norm eFd v (kRd eFd v) := ⟨fun h => h⟩
instance {v : FdT} : FieldP eFd v 0 (eL eI) (v.1) 0 := inferInstanceAs (FieldP (eC (fun v : FdT => (v.1, v.2.1, v.2.2.1, v.2.2.2, ())) (eP (eL eI) (eP eI (eP eI (eP eI eU))))) v 0 _ _ _)
instance {v : FdT} : FieldP eFd v 1 eI (v.2.1) 1 := inferInstanceAs (FieldP (eC (fun v : FdT => (v.1, v.2.1, v.2.2.1, v.2.2.2, ())) (eP (eL eI) (eP eI (eP eI (eP eI eU))))) v 1 _ _ _)
instance {v : FdT} : FieldP eFd v 2 eI (v.2.2.1) 2 := inferInstanceAs (FieldP (eC (fun v : FdT => (v.1, v.2.1, v.2.2.1, v.2.2.2, ())) (eP (eL eI) (eP eI (eP eI (eP eI eU))))) v 2 _ _ _)
instance {v : FdT} : FieldP eFd v 3 eI (v.2.2.2) 3 := inferInstanceAs (FieldP (eC (fun v : FdT => (v.1, v.2.1, v.2.2.1, v.2.2.2, ())) (eP (eL eI) (eP eI (eP eI (eP eI eU))))) v 3 _ _ _)
instance {ks r : List Know} {a : List Int} {b c d : Int} [h : RdOf ks (eP (eL eI) (eP eI (eP eI (eP eI eU)))) (a, b, c, d, ()) r] : RdOf ks eFd ((a, b, c, d)) r := ⟨fun h' => h.imp h'⟩
def ratF : FdT := ([0, 1], 0, 0, 1)
def outCf (c : Int) : Bool := !decide (-1000 ≤ c ∧ c ≤ 1000)
theorem ct_IndexFunc (xs : List Int) (f : FuncId) (q : Int → Bool) [TyFn Tryz.prog f] (hf : ∀ x, Ct Tryz.prog f [kI x] (kB (q x))) : Ct Tryz.prog 149 [kRd (eL eI) xs, kDet (.func (.func f) #[] #[])] (kI (idxF q xs)) := by
 refine Ct.mk Tryz.func149 rfl Tryz.ntmps149 rfl (fun w J => ?_); refine Tr.fact (s := 0) rfl (fun _ _ h => lenB h) (fun hb => ?_); refine jx13 ?_
 refine Tr.for1 (σ := Nat) [⟨0, true, _, _⟩, ⟨1, true, _, _⟩, ⟨7, true, _, _⟩] [] (fun k => [⟨8, true, [], kI (k : Int)⟩]) (fun k => []) (fun k => k ≤ xs.length ∧ ∀ i, i < k → q (nth xs i) = false) (fun k => ∀ i, i < xs.length → q (nth xs i) = false) (fun k => xs.length - k) (0) ⟨by omega, fun i h => absurd h zo⟩ (Ent.mk (.i rfl zi <| zk) (.nil) rfl) ?_ ?_
 ·rintro k ⟨hk, hR⟩
  refine jn ?_; refine jx6 ?_; refine jq ?_ ?_
  ·intro h2
   refine jx17 ?_; refine tO (ok_callV rfl uu (fun hp => hf _) (.a rfl uu <| .nil)) rfl rfl ?_; refine jx2 ?_; refine Tr.cnd rfl ?_ ?_
   ·intro h4
    refine jx13 ?_; exact Rts.res1 (fn := Tryz.f149) rfl (.i rfl (idxF_at zo hR h4) <| .nil)
   ·intro h4
    refine jx7 ?_
    exact End.lp (k + 1) ⟨by omega, fun i hi => by (rcases Nat.lt_succ_iff_lt_or_eq.1 hi with h | h; exact hR i h; subst h; exact h4)⟩ zo (Ent.mk (.i rfl zi <| zk) (.nil) rfl)
  ·intro h2
   replace h2 := Int.not_lt.1 h2
   refine jx4 ?_
   exact End.cut (k) (fun i hi => hR i zo) (Ent.mk (.i rfl zi <| zk) (.nil) rfl)
 ·intro k hE
  refine je ?_; refine jx7 ?_; exact Rts.res1 (fn := Tryz.f149) rfl (.i rfl (idxF_none hE) <| .nil)

theorem ct_ContainsFunc (xs : List Int) (f : FuncId) (q : Int → Bool) [TyFn Tryz.prog f] (hf : ∀ x, Ct Tryz.prog f [kI x] (kB (q x))) : Ct Tryz.prog 99 [kRd (eL eI) xs, kDet (.func (.func f) #[] #[])] (kB (xs.any q)) := by
 refine Ct.mk Tryz.func99 rfl Tryz.ntmps99 rfl (fun w J => ?_); refine jx9 ?_; refine tO (ok_call (fun hp => ct_IndexFunc _ f q hf) (.a rfl uu <| .a rfl uu <| .nil)) rfl rfl ?_; refine jx5 ?_; exact Rts.res1 (fn := Tryz.f99) rfl (.b rfl idxF_nonneg <| .nil)

theorem ct_between (n a b : Int) : Ct Tryz.prog 186 [kI n, kI a, kI b] (kB (decide (a ≤ n ∧ n ≤ b))) := by
 refine Ct.mk Tryz.func186 rfl Tryz.ntmps186 rfl (fun w J => ?_); refine jx19 ?_; exact Rts.res1 (fn := Tryz.f186) rfl (.b rfl (by symm; exact Bool.decide_and _ _) <| .nil)

theorem ct_fCheck1 (c : Int) : Ct Tryz.prog 187 [kI c] (kB (outCf c)) := by
 refine Ct.mk Tryz.func187 rfl Tryz.ntmps187 rfl (fun w J => ?_); refine jx8 ?_; refine tO (ok_call (fun hp => ct_between _ _ _) (.a rfl uu <| .a rfl uu <| .a rfl uu <| .nil)) rfl rfl ?_; refine jx5 ?_; exact Rts.res1 (fn := Tryz.f187) rfl (.b rfl (by rfl) <| .nil)

theorem ct_divided2 (p : List Int) (hp : p.length = 2) : Ct Tryz.prog 188 [kRd (eL eI) p] (kB false) := by
 refine Ct.mk Tryz.func188 rfl Tryz.ntmps188 rfl (fun w J => ?_); refine jx2 ?_; refine jb 1 rfl ?_; refine jx20 ?_; refine Tr.cnd rfl ?_ ?_
 ·intro h2
  try simp only [decide_eq_true_eq] at h2
  refine jx8 ?_; exact Rts.res1 (fn := Tryz.f188) rfl (.b rfl (by rfl) <| .nil)
 ·intro h2
  try simp only [decide_eq_false_iff_not] at h2
  exact absurd h2 zo

theorem ct_oneRat  : Ct Tryz.prog 189 [kRd eFd ratF] (kB true) := by
 have q0 : ratF.1.length = 2 := rfl
 have q2 : nth ratF.1 (Int.toNat 0) = 0 := rfl
 have q3 : ratF.2.2.2 = 1 := rfl
 have q4 : -nth ratF.1 (Int.toNat 0) * ratF.2.2.2 = 0 := by decide
 refine Ct.mk Tryz.func189 rfl Tryz.ntmps189 rfl (fun w J => ?_); refine jx2 ?_; refine jb 1 rfl ?_; refine jx12 ?_; refine Tr.cnd rfl ?_ ?_
 ·intro h1
  refine jx1 ?_; refine Tr.draw 12 mixed (by kernel_rfl) ?_; refine jx4 ?_; refine rO (ok_neg rfl uu (fun _ => zo)) rfl rfl ?_; refine jx8 ?_; refine tO (ok_call (fun hp => ct_between _ _ _) (.a rfl uu <| .a rfl uu <| .a rfl uu <| .nil)) rfl rfl ?_; refine jx5 ?_; exact Rts.res1 (fn := Tryz.f189) rfl (.b rfl (by decide) <| .nil)
 ·intro h1
  exact absurd h1 (by decide)

theorem ct_fCheckRat  : Ct Tryz.prog 157 [kRd eFd ratF] (kI 0) := by
 have q0 : ratF.1.length = 2 := rfl
 have q2 : nth ratF.1 (Int.toNat 0) = 0 := rfl
 have q3 : ratF.2.2.2 = 1 := rfl
 have q4 : -nth ratF.1 (Int.toNat 0) * ratF.2.2.2 = 0 := by decide
 refine Ct.mk Tryz.func157 rfl Tryz.ntmps157 rfl (fun w J => ?_); refine jx2 ?_; refine jb 1 rfl ?_; refine jx16 ?_; refine tO (ok_call (fun hp => ct_between _ _ _) (.a rfl uu <| .a rfl uu <| .a rfl uu <| .nil)) rfl rfl ?_; refine jx4 ?_; refine Tr.cnd rfl ?_ ?_
 ·intro h2
  exact absurd h2 (by decide)
 ·intro h2
  refine jx4 ?_; refine tO (ok_call (fun hp => ct_ContainsFunc _ 187 outCf (fun x => ct_fCheck1 x)) (.a rfl uu <| .a rfl uu <| .nil)) rfl rfl ?_; refine jx3 ?_; refine Tr.cnd rfl ?_ ?_
  ·intro h4
   exact absurd h4 (by decide)
  ·intro h4
   refine jx4 ?_; refine tO (ok_call (fun hp => ct_between _ _ _) (.a rfl uu <| .a rfl uu <| .a rfl uu <| .nil)) rfl rfl ?_; refine jx4 ?_; refine TrL.gd rfl rfl rfl (ok_call (fun hp => ct_between _ _ _) (.a rfl id <| .a rfl uu <| .a rfl uu <| .nil)) rfl rfl ?_; refine jx5 ?_; refine TrL.gd rfl rfl rfl (ok_call (fun hp => ct_between _ _ _) (.a rfl id <| .a rfl uu <| .a rfl uu <| .nil)) rfl rfl ?_; refine jx5 ?_; refine Tr.cnd rfl ?_ ?_
   ·intro h6
    exact absurd h6 (by decide)
   ·intro h6
    refine jx12 ?_; refine TrL.gd rfl rfl rfl (ok_call (fun hp => ct_divided2 _ (by decide)) (.a rfl id <| .nil)) rfl rfl ?_; refine jx4 ?_; refine Tr.cnd rfl ?_ ?_
    ·intro h8
     exact absurd h8 (by decide)
    ·intro h8
     refine jx10 ?_; refine Tr.cnd rfl ?_ ?_
     ·intro h10
      exact absurd h10 (by decide)
     ·intro h10
      refine jx3 ?_; refine jc ct_oneRat ?_; refine jx4 ?_; refine Tr.cnd rfl ?_ ?_
      ·intro h12
       exact absurd h12 (by decide)
      ·intro h12
       refine jx9 ?_; exact Rts.res1 (fn := Tryz.f157) rfl (.i rfl (by rfl) <| .nil)

theorem ct_rRational  : Ct Tryz.prog 112 [] (kRd eFd ratF) := by
 refine Ct.mk Tryz.func112 rfl Tryz.ntmps112 rfl (fun w J => ?_); refine jx2 ?_; refine ja 0 ?_; refine jx4 ?_; refine TrL.new (ok_bsl eI 1 (fun hp => .cons rfl <| .cons rfl <| .nil) rfl rfl rfl rfl) rfl rfl rfl rfl ?_; refine tO (ok_build (fun hp => .cons rfl rfl rfl <| .cons rfl rfl rfl <| .nil)) rfl rfl ?_; refine jx3 ?_; refine Tr.frzC 1 0 (by simp only [lenMax]; omega) rfl rfl ?_; refine jx1 ?_; exact Rts.resC1 (fn := Tryz.f112) rfl rfl (aggRd rfl (by rfl))

end Go.Fl

/- Integers of any size in arrays of the call's own: loads and stores at any place. -/
namespace Go.Fl
open Go Go.RowKit
set_option maxRecDepth 100000
def eZ : Enc Int := eC wh eW
instance {z : Int} : Norm eZ z (kRd eW (wh z)) := ⟨fun h => h⟩
instance {z : Int} : CellsK (kRd eZ z) [kB (decide (z < 0)), kRd (eL eI) (digN z.natAbs)] := inferInstanceAs (CellsK (kRd eW (wh z)) _)
instance {z : Int} {tl : List Know} : EncCells eZ z tl (kB (decide (z < 0)) :: kRd (eL eI) (digN z.natAbs) :: tl) := ⟨fun h h' => (inferInstance : EncCells eW (wh z) tl (kB (decide (z < 0)) :: kRd (eL eI) (digN z.natAbs) :: tl)).imp h h'⟩
instance {z : Int} {r : List Know} : RdOf (kB (decide (z < 0)) :: kRd (eL eI) (digN z.natAbs) :: r) eZ z r := ⟨fun h => (inferInstance : RdOf (kB (decide (z < 0)) :: kRd (eL eI) (digN z.natAbs) :: r) eW (decide (z < 0), digN z.natAbs) r).imp h⟩
instance {z : Int} : ToRd (kRd eW (wh z)) eZ z := ⟨fun h => ⟨h.cells, eW.all1 h.cells⟩⟩
instance {r : List Know} : RdOf (kB false :: kDet (.slice none 0 0) :: r) eZ 0 r := ⟨fun h => (inferInstance : RdOf (kB false :: kDet (.slice none 0 0) :: r) eW (false, []) r).imp h⟩
def wC (f : Nat → Int) : Nat → Nat → List Know
 | _, 0 => []
 | i, m + 1 => kB (decide (f i < 0)) :: kRd (eL eI) (digN (f i).natAbs) :: wC f (i + 1) m
theorem wC_len {f : Nat → Int} : ∀ {m i : Nat}, (wC f i m).length = m * 2
 | 0, _ => rfl
 | m + 1, i => by simp only [wC, List.length_cons, wC_len (m := m)]; omega
instance {f : Nat → Int} {i m : Nat} : KsDep (wC f i m) [] := ⟨by
 intro g g' vs hl _ h
 induction m generalizing i vs with
 | zero => cases vs with
  | nil => trivial
  | cons => exact h.elim
 | succ m ih => match vs, h with
  | v :: u :: vs, ⟨h1, h2, h3⟩ => exact ⟨h1, KDep.dep (k := kRd (eL eI) _) (g := g) hl (fun _ h => by cases h) h2, ih h3⟩⟩
theorem allK_split {g : Gh} : ∀ {ks ls : List Know} {vs : List Value}, allK g (ks ++ ls) vs → ∃ v1 v2, vs = v1 ++ v2 ∧ allK g ks v1 ∧ allK g ls v2
 | [], _, vs, h => ⟨[], vs, rfl, trivial, h⟩
 | _ :: _, _, v :: vs, h => by
  obtain ⟨v1, v2, rfl, h1, h2⟩ := allK_split h.2
  exact ⟨v :: v1, v2, rfl, ⟨h.1, h1⟩, h2⟩
 | _ :: _, _, [], h => h.elim
instance (priority := low) {ks ls : List Know} {ds es : List Nat} [h : KsDep ks ds] [k : KsDep ls es] : KsDep (ks ++ ls) (ds ++ es) := ⟨fun hl hd h' => by
 obtain ⟨v1, v2, rfl, h1, h2⟩ := allK_split h'
 exact allK_append (h.dep hl (fun t ht => hd t (List.mem_append.2 (.inl ht))) h1) (k.dep hl (fun t ht => hd t (List.mem_append.2 (.inr ht))) h2)⟩
instance {f : Nat → Int} {i m : Nat} : OneKs (wC f i m) := ⟨by
 intro g cs h
 induction m generalizing i cs with
 | zero => cases cs with
  | nil => rfl
  | cons => exact h.elim
 | succ m ih => match cs, h with
  | v :: u :: vs, ⟨h1, h2, h3⟩ => simp only [List.all_cons, OneC.imp (k := kB _) h1, OneC.imp (k := kRd (eL eI) _) h2, ih h3, Bool.and_self]⟩
instance {ks ls : List Know} [h : OneKs ks] [k : OneKs ls] : OneKs (ks ++ ls) := ⟨fun h' => by
 obtain ⟨v1, v2, rfl, h1, h2⟩ := allK_split h'
 rw [List.all_append, h.imp h1, k.imp h2]; rfl⟩
theorem wC_rd {f : Nat → Int} {g : Gh} : ∀ {m i : Nat} {cs : List Value}, allK g (wC f i m) cs → rdA eZ g.J cs ((List.range' i m).map f)
 | 0, _, cs, h => by cases cs with
  | nil => rfl
  | cons => exact h.elim
 | m + 1, i, cs, h => by
  match cs, h with
  | v :: u :: vs, ⟨h1, h2, h3⟩ =>
   obtain ⟨c1, c2, he, q1, q2⟩ := (inferInstance : RdOf (kB (decide (f i < 0)) :: kRd (eL eI) (digN (f i).natAbs) :: []) eZ (f i) []).imp (g := g) (cs := [v, u]) ⟨h1, h2, trivial⟩
   cases c2 with
   | nil =>
    rw [List.append_nil] at he
    subst he
    exact ⟨[v, u], vs, rfl, q1, wC_rd h3⟩
   | cons => exact q2.elim
theorem range_tab {m : Nat} {f : Nat → Int} : (List.range' 0 m).map f = tab m f := by rw [← List.range_eq_range']; rfl
instance {f : Nat → Int} {m : Nat} {r : List Know} : RdOf (wC f 0 m ++ r) (eArr m eZ) (tab m f) r := ⟨fun h => by
 obtain ⟨v1, v2, rfl, h1, h2⟩ := allK_split h
 exact ⟨v1, v2, rfl, ⟨tab_len, by rw [← range_tab]; exact wC_rd h1⟩, h2⟩⟩
instance {f : Nat → Int} {m : Nat} : RdOf (wC f 0 m) (eArr m eZ) (tab m f) [] := ⟨fun {g cs} h => ⟨cs, [], by simp, ⟨tab_len, by rw [← range_tab]; exact wC_rd h⟩, trivial⟩⟩
instance {f : Nat → Int} {m : Nat} : RdRow (wC f 0 m) eZ (tab m f) := ⟨fun {g cs} h i x hx => rdA_at (J := g.J) (by rw [← range_tab]; exact wC_rd h) hx⟩
theorem wC_cells {f : Nat → Int} {g : Gh} {tl : List Know} {ds : List Value} (ht : allK g tl ds) : ∀ {xs : List Int} {i : Nat} {cs : List Value}, rdA eZ g.J cs xs → (∀ j, j < xs.length → f (i + j) = nth xs j) → allK g (wC f i xs.length ++ tl) (cs ++ ds)
 | [], _, _, h, _ => by have h : _ = [] := h; subst h; exact ht
 | x :: xs, i, _, ⟨c1, c2, h, h1, h2⟩, hf => by
  subst h
  have hx : f i = x := hf 0 (by simp)
  have hr := wC_cells (f := f) ht (i := i + 1) h2 (fun j hj => by
   have := hf (j + 1) (by simp; omega)
   rw [show i + 1 + j = i + (j + 1) by omega, this]; rfl)
  have := (inferInstance : EncCells eZ x (wC f (i + 1) xs.length ++ tl) _).imp h1 hr
  simp only [List.length_cons, wC, hx, List.cons_append]
  rw [List.append_assoc]
  exact this
instance {m : Nat} {l : List Int} {tl : List Know} : EncCells (eArr m eZ) l tl (wC (nth l) 0 m ++ tl) := ⟨fun ⟨h1, h2⟩ ht => by
 subst h1
 exact wC_cells ht h2 (fun j _ => by rw [Nat.zero_add])⟩
instance {f : Nat → Int} {r : List Know} : SubK (wC f 0 4 ++ r) 0 8 (wC f 0 4) := ⟨by simp [wC], rfl⟩
instance {f : Nat → Int} {r : List Know} : SubK (wC f 0 4 ++ r) (0 + 0) 8 (wC f 0 4) := ⟨by simp [wC], rfl⟩
instance {f : Nat → Int} {a b : Know} : SubK (wC f 0 4 ++ [a, b]) 8 2 [a, b] := ⟨rfl, rfl⟩
instance {f : Nat → Int} {a b : Know} : SubK (wC f 0 4 ++ [a, b]) (0 + 8) 2 [a, b] := ⟨rfl, rfl⟩
instance {f : Nat → Int} {a b : Know} : SubK (wC f 0 4 ++ [a, b]) 0 10 (wC f 0 4 ++ [a, b]) := ⟨rfl, rfl⟩
instance {f : Nat → Int} {a b x y : Know} : SetAt (wC f 0 4 ++ [a, b]) 8 [x, y] (wC f 0 4 ++ [x, y]) := ⟨by simp [wC], rfl⟩
instance {f : Nat → Int} {a b x y : Know} : SetAt (wC f 0 4 ++ [a, b]) (0 + 8) [x, y] (wC f 0 4 ++ [x, y]) := ⟨by simp [wC], rfl⟩
instance {f : Nat → Int} {a b k0 k1 k2 k3 k4 k5 k6 k7 k8 k9 : Know} : SetAt [k0, k1, k2, k3, k4, k5, k6, k7, k8, k9] 0 (wC f 0 4 ++ [a, b]) (wC f 0 4 ++ [a, b]) := ⟨by simp [wC], by simp [wC]⟩
instance {f f' : Nat → Int} {a b a' b' : Know} : SetAt (wC f' 0 4 ++ [a', b']) 0 (wC f 0 4 ++ [a, b]) (wC f 0 4 ++ [a, b]) := ⟨by simp [wC], by simp [wC]⟩
def upd (f : Nat → Int) (j : Nat) (z : Int) : Nat → Int := fun i => if i = j then z else f i
theorem wC_get {f : Nat → Int} {g : Gh} {r : List Know} {m j : Nat} {cs : List Value} (h : allK g (wC f 0 m ++ r) cs) (hj : j < m) : ∃ ds, eW.rd g.J ds (wh (f j)) ∧ ∀ q v, ds[q]? = some v → cs[2 * j + q]? = some v := by
 obtain ⟨v1, v2, rfl, h1, _⟩ := allK_split h
 have hr := wC_rd h1
 rw [range_tab] at hr
 obtain ⟨ds, q1, q2⟩ := rdA_at hr (i := j) (x := f j) (by rw [show f j = nth (tab m f) j from (nth_tab hj).symm]; exact nth_get (by rw [tab_len]; exact hj))
 refine ⟨ds, q1, fun q v hv => ?_⟩
 have := q2 q v hv
 rw [show eZ.n = 2 from rfl] at this
 rw [Nat.mul_comm, List.getElem?_append_left (List.getElem?_eq_some_iff.1 this).1]
 exact this
theorem wC_upd {f : Nat → Int} {z : Int} {g : Gh} {v u : Value} (hv : v = .bool (decide (z < 0))) (hu : kRd (eL eI) (digN z.natAbs) g u) : ∀ {m i j : Nat} {r : List Know} {cs : List Value}, allK g (wC f i m ++ r) cs → j < m → allK g (wC (upd f (i + j) z) i m ++ r) (cs.take (2 * j) ++ [v, u] ++ cs.drop (2 * j + 2))
 | 0, _, _, _, _, _, hj => by omega
 | m + 1, i, 0, r, cs, h, _ => by
  match cs, h with
  | a :: b :: cs, ⟨_, _, h3⟩ =>
   have h4 : ∀ {m k : Nat} {vs : List Value}, i < k → allK g (wC f k m ++ r) vs → allK g (wC (upd f i z) k m ++ r) vs := fun {m} => by
    induction m with
    | zero => exact fun _ h => h
    | succ m ih =>
     intro k vs hk h
     match vs, h with
     | a :: b :: vs, ⟨q1, q2, q3⟩ =>
      have e : upd f i z k = f k := if_neg zo
      simp only [wC, e, List.cons_append]
      exact ⟨q1, q2, ih zo q3⟩
   have e : upd f i z i = z := if_pos rfl
   simp only [wC, Nat.add_zero, e, List.cons_append, Nat.mul_zero, List.take_zero, List.nil_append, Nat.zero_add, List.drop_succ_cons, List.drop_zero]
   exact ⟨hv, hu, h4 zo h3⟩
 | m + 1, i, j + 1, r, cs, h, hj => by
  match cs, h with
  | a :: b :: cs, ⟨h1, h2, h3⟩ =>
   have := wC_upd hv hu (i := i + 1) (j := j) h3 zo
   rw [show i + 1 + j = i + (j + 1) by omega] at this
   have e : upd f (i + (j + 1)) z i = f i := if_neg zo
   simp only [wC, e, List.cons_append, show 2 * (j + 1) = 2 * j + 2 by omega, List.take_succ_cons, List.drop_succ_cons]
   exact ⟨h1, h2, this⟩
section
variable {P : Program} {c : Ctx} {S : Slots} {M : Conts} {p : Bool} {d : Option Tmp} {ty : TypeId} {pos : String} {af : Array Edge} {gd : Option (Nat × Bool)} {x y : Operand} {b b' : Bool}
theorem ok_ldW {t : TypeId} [ht : TyAgg P t] {by' : Nat} {zz : Value} [hz : TySz P t 2 by' zz] {u o : Nat} (j : Nat) {m : Nat} {f : Nat → Int} {r : List Know} {dep : List Nat} [hl : LkM M u (cBlk (wC f 0 m ++ r)) dep] (hj : p = true → j < m) (ho : p = true → o = 2 * j) (hx : opK S x = some (b, kOwn u o)) (hb : p = true → b = true) :
  OpOk P c S M ⟨d, .load t x, ty, pos, af, gd⟩ p (kRd eW (wh (f j))) none :=
 OpOk.pure fun hp a g w hok hc hop => by
  obtain ⟨bl, cap, h1, h2⟩ := hop x (by simp [Op.operands]) b _ hx (hb hp)
  obtain ⟨cs, ty', h3, h4⟩ := blk_of (ks := wC f 0 m ++ r) hc h1
  obtain ⟨ds, q1, q2⟩ := wC_get h4 (hj hp)
  have ho := ho hp
  subst ho
  exact ⟨.agg ds.toArray, by simp only [execOp, h2, Sem.run_bind, run_loadAt_agg (P := P) (t := t) (w := w) (b := bl) (o := 2 * j) (eW.len q1) (fun q v hv => cell_own h3 (by simpa using q2 q v hv)), Result.andThen_ok, Sem.run_pure], _, q1, rfl⟩
theorem ok_idxW {t et : TypeId} {n : Nat} [ht : TyArr P t n et] {by' : Nat} {zz : Value} [hz : TySz P et 2 by' zz] [hag : TyAgg P et] {f : Nat → Int} {ik : IntKind} {i : Nat} (hx : opK S x = some (b, kAgg (wC f 0 n))) (hb : p = true → b = true) (hy : opK S y = some (b', kInt ik (i : Int))) (hb' : p = true → b' = true) (h : p = true → i < n) :
  OpOk P c S M ⟨d, .index t x y, ty, pos, af, gd⟩ p (kRd eW (wh (f i))) none := by
 cases p with
 | false => exact fun hp => by cases hp
 | true =>
  have := ok_idxAA (P := P) (c := c) (M := M) (d := d) (ty := ty) (pos := pos) (af := af) (gd := gd) (t := t) (et := et) eZ (ks := wC f 0 n) (xs := tab n f) hx hb hy hb' rfl rfl wC_len (fun _ => ⟨h rfl, by rw [tab_len]; exact h rfl⟩)
  rwa [nth_tab (h rfl)] at this
end
section
variable {P : Program} {c : Ctx} {ops : Array Oper} {S : Slots} {M : Conts} {rest : List Oper} {Q : Exit → Act → World → Prop} {x y : Operand}
variable {ty : TypeId} {pos : String} {af : Array Edge}
theorem TrL.stW {t : TypeId} {by' : Nat} {zz : Value} [hz : TySz P t 2 by' zz] {u o : Nat} (j : Nat) {m : Nat} {f : Nat → Int} {z : Int} {r : List Know} {dep dep' : List Nat} {M' : Conts} (hj : j < m) (ho : o = 2 * j) (hx : opK S x = some (true, kOwn u o)) (hy : opK S y = some (true, kRd eW (wh z))) [hl : LkM M u (cBlk (wC f 0 m ++ r)) dep]
  [hd : KsDep (wC (upd f j z) 0 m ++ r) dep'] [hup : UpM M u (cBlk (wC (upd f j z) 0 m ++ r)) dep' M'] (hs : subT dep' (tags M) = true) (K : TrL P c ops S M' rest Q) : TrL P c ops S M (⟨none, .store t x y, ty, pos, af, none⟩ :: rest) Q := by
 intro a g w hsat
 subst ho
 obtain ⟨b, cap, hm, he⟩ := opK_holds hsat.slots hx rfl
 have hv := opK_holds hsat.slots hy rfl
 obtain ⟨cs, tt, h3, h4⟩ := blk_of (ks := wC f 0 m ++ r) hsat.conts hm
 obtain ⟨h5, h6⟩ := (inferInstance : CellsK (kRd eW (wh z)) [kB (decide (z < 0)), kRd (eL eI) (digN z.natAbs)]).imp hv
 obtain ⟨v1, u1, hvs, e1, e2⟩ : ∃ v u, (a.eval y).cells.toList = [v, u] ∧ v = .bool (decide (z < 0)) ∧ kRd (eL eI) (digN z.natAbs) g u := by
  match h : (a.eval y).cells.toList, h5 with
  | [v, u], h5 => exact ⟨v, u, rfl, h5.1, h5.2.1⟩
 have hcl := allK_len h4
 simp only [Array.length_toList, List.length_append, wC_len] at hcl
 have hsz : (a.eval y).cells.size = 2 := by rw [← Array.length_toList, hvs]; rfl
 have hr := run_storeAt (P := P) (t := t) (o := 2 * j) h3 hsz zo (List.all_eq_true.1 h6)
 refine wpList_plain rfl fun K' hK' => ?_
 unfold Oper.wp
 simp only [execOp, he, Sem.run_bind, hr, Result.andThen_ok, Sem.run_pure, Oper.upon, Act.put]
 have hnew := wC_upd (j := j) e1 e2 h4 hj
 rw [Nat.zero_add] at hnew
 exact hK' _ _ (K a g _ (hsat.store hm h3 hup ⟨_, _, rfl, by rw [hvs]; simpa using hnew⟩ inferInstance (subT_spec hs)))
end
def eNu : Enc (List Int × Int) := eC (fun v : List Int × Int => (v.1, v.2, ())) (eP (eArr 4 eZ) (eP eZ eU))
instance {v : List Int × Int} : CellsK (kRd eNu v) (wC (nth v.1) 0 4 ++ [kB (decide (v.2 < 0)), kRd (eL eI) (digN v.2.natAbs)]) := inferInstanceAs (CellsK (kRd (eC (fun v : List Int × Int => (v.1, v.2, ())) (eP (eArr 4 eZ) (eP eZ eU))) v) _)
instance {v : List Int × Int} : Norm eNu v (kRd eNu v) := ⟨fun h => h⟩
instance {v : List Int × Int} : FieldP eNu v 0 (eArr 4 eZ) v.1 0 := inferInstanceAs (FieldP (eC (fun v : List Int × Int => (v.1, v.2, ())) (eP (eArr 4 eZ) (eP eZ eU))) v 0 _ _ _)
instance {v : List Int × Int} : FieldP eNu v 1 eZ v.2 8 := inferInstanceAs (FieldP (eC (fun v : List Int × Int => (v.1, v.2, ())) (eP (eArr 4 eZ) (eP eZ eU))) v 1 _ _ _)
instance {f : Nat → Int} {d : Int} {r : List Know} : RdOf (wC f 0 4 ++ kB (decide (d < 0)) :: kRd (eL eI) (digN d.natAbs) :: r) eNu (tab 4 f, d) r := ⟨fun h => (inferInstance : RdOf (wC f 0 4 ++ kB (decide (d < 0)) :: kRd (eL eI) (digN d.natAbs) :: r) (eP (eArr 4 eZ) (eP eZ eU)) (tab 4 f, d, ()) r).imp h⟩
instance {r : List Know} : RdOf (kDet (.bool false) :: kDet (.slice none 0 0) :: r) eZ 0 r := ⟨fun {g cs} h => (inferInstance : RdOf (kB false :: kDet (.slice none 0 0) :: r) eZ 0 r).imp (g := g) (cs := cs) (match cs, h with | _ :: _ :: _, ⟨h1, h2, h3⟩ => ⟨h1, h2, h3⟩)⟩
instance (priority := low) {a b c d e : Int} {ks r1 r2 r3 r4 r : List Know} [h1 : RdOf ks eZ a r1] [h2 : RdOf r1 eZ b r2] [h3 : RdOf r2 eZ c r3] [h4 : RdOf r3 eZ d r4] [h5 : RdOf r4 eZ e r] : RdOf ks eNu ([a, b, c, d], e) r := ⟨fun {g cs} h => by
 obtain ⟨c1, t1, rfl, q1, h⟩ := h1.imp h
 obtain ⟨c2, t2, rfl, q2, h⟩ := h2.imp h
 obtain ⟨c3, t3, rfl, q3, h⟩ := h3.imp h
 obtain ⟨c4, t4, rfl, q4, h⟩ := h4.imp h
 obtain ⟨c5, t5, rfl, q5, h⟩ := h5.imp h
 exact ⟨c1 ++ c2 ++ c3 ++ c4 ++ c5, t5, by simp, ⟨c1 ++ c2 ++ c3 ++ c4, c5, by simp, ⟨rfl, c1, c2 ++ c3 ++ c4, by simp, q1, c2, c3 ++ c4, by simp, q2, c3, c4, by simp, q3, c4, [], by simp, q4, rfl⟩, c5, [], by simp, q5, rfl⟩, h⟩⟩
theorem eNu_len {v : List Int × Int} {g : Gh} {u : Value} (h : kRd eNu v g u) : v.1.length = 4 := by
 obtain ⟨_, ⟨_, _, _, ⟨h, _⟩, _⟩, _⟩ := h
 exact h
theorem cB_eq {ks ks' : List Know} (h : ks = ks') : ∀ g b o, cBlk ks g b o → cBlk ks' g b o := fun _ _ _ h' => by subst h; exact h'
theorem wC_congr {f f' : Nat → Int} : ∀ {m i : Nat}, (∀ j, i ≤ j → j < i + m → f j = f' j) → wC f i m = wC f' i m
 | 0, _, _ => rfl
 | m + 1, i, h => by simp only [wC]; rw [h i (Nat.le_refl _) zo, wC_congr fun j h1 h2 => h j zo zo]
theorem cW {f f' : Nat → Int} {m : Nat} {r r' : List Know} (h : ∀ j, j < m → f j = f' j) (hr : r = r') : ∀ g b o, cBlk (wC f 0 m ++ r) g b o → cBlk (wC f' 0 m ++ r') g b o := cB_eq (by rw [wC_congr fun j _ hj => h j zo, hr])
theorem dcell {d d' : Int} (h : d = d') : [kB (decide (d < 0)), kRd (eL eI) (digN d.natAbs)] = [kB (decide (d' < 0)), kRd (eL eI) (digN d'.natAbs)] := by rw [h]
end Go.Fl

/- Numbers: coefficients over a denominator, in lowest terms. Plain Lean, no program in sight. -/
namespace Go.Fl
def gL (g : Nat) : List Int → Nat
 | [] => g
 | c :: cs => gL (Nat.gcd g c.natAbs) cs
theorem gL_dvd : ∀ {cs : List Int} {g : Nat}, gL g cs ∣ g ∧ ∀ c ∈ cs, gL g cs ∣ c.natAbs
 | [], g => ⟨Nat.dvd_refl _, fun c h => by cases h⟩
 | c :: cs, g => by
  obtain ⟨h1, h2⟩ := gL_dvd (cs := cs) (g := Nat.gcd g c.natAbs)
  rw [gL]
  refine ⟨Nat.dvd_trans h1 (Nat.gcd_dvd_left _ _), fun x hx => ?_⟩
  rcases List.mem_cons.1 hx with rfl | hx
  ·exact Nat.dvd_trans h1 (Nat.gcd_dvd_right _ _)
  ·exact h2 x hx
theorem gL_pos {cs : List Int} {g : Nat} (h : 0 < g) : 0 < gL g cs := Nat.pos_of_dvd_of_pos gL_dvd.1 h
theorem gL_mul : ∀ {cs : List Int} {g : Nat} {m : Int}, gL (g * m.natAbs) (cs.map fun c => c * m) = gL g cs * m.natAbs
 | [], _, _ => rfl
 | c :: cs, g, m => by rw [List.map_cons, gL, gL, Int.natAbs_mul, Nat.gcd_mul_right, gL_mul]
theorem gL_snoc : ∀ {cs : List Int} {g : Nat} {c : Int}, gL g (cs ++ [c]) = Nat.gcd (gL g cs) c.natAbs
 | [], _, _ => rfl
 | x :: cs, g, c => by rw [List.cons_append, gL, gL, gL_snoc]
theorem gL_zeros : ∀ {k g : Nat}, gL g (List.replicate k 0) = g
 | 0, _ => rfl
 | k + 1, g => by rw [List.replicate_succ, gL, Int.natAbs_zero, Nat.gcd_zero_right, gL_zeros]
theorem gL_append : ∀ {xs ys : List Int} {g : Nat}, gL g (xs ++ ys) = gL (gL g xs) ys
 | [], _, _ => rfl
 | x :: xs, ys, g => by rw [List.cons_append, gL, gL, gL_append]
def sgG (d : Int) (cs : List Int) : Int := if d < 0 then -(gL d.natAbs cs : Int) else gL d.natAbs cs
theorem sgG_ne {d : Int} {cs : List Int} (h : d ≠ 0) : sgG d cs ≠ 0 := by
 have := gL_pos (cs := cs) (show 0 < d.natAbs by omega)
 unfold sgG; split <;> omega
theorem sgG_dvd {d : Int} {cs : List Int} {c : Int} (h : c = d ∨ c ∈ cs) : sgG d cs ∣ c := by
 have h1 : ((gL d.natAbs cs : Nat) : Int) ∣ c := by
  refine Int.ofNat_dvd_left.2 ?_
  rcases h with rfl | h
  ·exact gL_dvd.1
  ·exact gL_dvd.2 c h
 unfold sgG
 split
 ·exact Int.neg_dvd.2 h1
 ·exact h1
theorem sgG_mul {d m : Int} {cs : List Int} (hd : d ≠ 0) (hm : m ≠ 0) : sgG (d * m) (cs.map fun c => c * m) = sgG d cs * m := by
 unfold sgG
 rw [Int.natAbs_mul, gL_mul, Int.natCast_mul]
 by_cases h1 : d < 0 <;> by_cases h2 : m < 0
 ·have h3 := Int.mul_pos_of_neg_of_neg h1 h2
  rw [if_neg zo, if_pos h1, show ((m.natAbs : Nat) : Int) = -m by omega, Int.mul_neg, Int.neg_mul]
 ·have h3 := Int.mul_neg_of_neg_of_pos h1 (show 0 < m by omega)
  rw [if_pos h3, if_pos h1, show ((m.natAbs : Nat) : Int) = m by omega, Int.neg_mul]
 ·have h3 := Int.mul_neg_of_pos_of_neg (show 0 < d by omega) h2
  rw [if_pos h3, if_neg h1, show ((m.natAbs : Nat) : Int) = -m by omega, Int.mul_neg, Int.neg_neg]
 ·have h3 := Int.mul_pos (show 0 < d by omega) (show 0 < m by omega)
  rw [if_neg zo, if_neg h1, show ((m.natAbs : Nat) : Int) = m by omega]
theorem ediv_scale {a b m : Int} (hb : b ≠ 0) (hm : m ≠ 0) (h : b ∣ a) : a * m / (b * m) = a / b := by
 obtain ⟨q, rfl⟩ := h
 rw [Int.mul_ediv_cancel_left _ hb, show b * q * m = b * m * q by rw [Int.mul_assoc, Int.mul_comm q, ← Int.mul_assoc], Int.mul_ediv_cancel_left _ (Int.mul_ne_zero hb hm)]
def loN (cs : List Int) (d : Int) : List Int × Int := (cs.map fun c => c / sgG d cs, d / sgG d cs)
theorem low_scale {cs : List Int} {d m : Int} (hd : d ≠ 0) (hm : m ≠ 0) : loN (cs.map fun c => c * m) (d * m) = loN cs d := by
 unfold loN
 rw [sgG_mul hd hm, List.map_map]
 refine Prod.ext ?_ (ediv_scale (sgG_ne hd) hm (sgG_dvd (.inl rfl)))
 exact List.map_congr_left fun c hc => ediv_scale (sgG_ne hd) hm (sgG_dvd (.inr hc))
theorem low_eq {cs cs' : List Int} {d d' : Int} (hd : d ≠ 0) (hd' : d' ≠ 0) (h : (cs.map fun c => c * d') = cs'.map fun c => c * d) : loN cs d = loN cs' d' := by
 rw [← low_scale (cs := cs) hd hd', ← low_scale (cs := cs') hd' hd, h, Int.mul_comm]
theorem low_len {cs : List Int} {d : Int} : (loN cs d).1.length = cs.length := by unfold loN; simp
theorem low_pos {cs : List Int} {d : Int} (hd : d ≠ 0) : 0 < (loN cs d).2 := by
 unfold loN
 obtain ⟨q, hq⟩ := sgG_dvd (d := d) (cs := cs) (.inl rfl)
 have h0 := sgG_ne (cs := cs) hd
 show 0 < d / sgG d cs
 have e : d / sgG d cs = q := (congrArg (fun z => z / sgG d cs) hq).trans (Int.mul_ediv_cancel_left _ h0)
 rw [e]
 have hg := gL_pos (cs := cs) (show 0 < d.natAbs by omega)
 refine Classical.byContradiction fun hn => ?_
 by_cases h : d < 0
 ·have e : sgG d cs = -(gL d.natAbs cs : Int) := if_pos h
  rw [e] at hq
  have : (-(gL d.natAbs cs : Int)) * q = (gL d.natAbs cs : Int) * (-q) := by rw [Int.neg_mul, Int.mul_neg]
  have h5 := Int.mul_nonneg (a := (gL d.natAbs cs : Int)) (b := -q) zo zo
  omega
 ·have e : sgG d cs = (gL d.natAbs cs : Int) := if_neg h
  rw [e] at hq
  have h5 := Int.mul_nonneg (a := (gL d.natAbs cs : Int)) (b := -q) zo zo
  rw [Int.mul_neg] at h5
  omega
theorem low_pad {cs : List Int} {d : Int} {k : Nat} : loN (cs ++ List.replicate k 0) d = ((loN cs d).1 ++ List.replicate k 0, (loN cs d).2) := by
 have e : sgG d (cs ++ List.replicate k 0) = sgG d cs := by unfold sgG; rw [gL_append, gL_zeros]
 unfold loN
 rw [e, List.map_append]
 simp
theorem trim_pad : ∀ {xs : List Int} {k : Nat}, trimL (xs ++ List.replicate k 0) = trimL xs
 | [], k => by
  rw [List.nil_append]
  exact trim_zero fun i hi => nth_rep (by simpa using hi)
 | x :: xs, k => by rw [List.cons_append, trimL, trimL, trim_pad]
def red1 (p : List Int) (n : Nat) (xs : List Int) : List Int := tab (xs.length - 1) fun j => nth xs j - if xs.length - 1 - n ≤ j then nth xs (xs.length - 1) * nth p (j - (xs.length - 1 - n)) else 0
theorem red1_len {p xs : List Int} {n : Nat} : (red1 p n xs).length = xs.length - 1 := tab_len
def redF (p : List Int) (n : Nat) : Nat → List Int → List Int
 | 0, xs => xs ++ List.replicate (n - xs.length) 0
 | f + 1, xs => if xs.length ≤ n then xs ++ List.replicate (n - xs.length) 0 else redF p n f (red1 p n xs)
def red (p : List Int) (xs : List Int) : List Int := redF p (p.length - 1) (xs.length - (p.length - 1)) xs
theorem redF_len {p : List Int} {n : Nat} : ∀ {f : Nat} {xs : List Int}, xs.length ≤ n + f → (redF p n f xs).length = n
 | 0, xs, h => by rw [redF, List.length_append, List.length_replicate]; omega
 | f + 1, xs, h => by
  rw [redF]
  split
  ·rw [List.length_append, List.length_replicate]; omega
  ·exact redF_len (by rw [red1_len]; omega)
theorem red_len {p xs : List Int} : (red p xs).length = p.length - 1 := redF_len zo
end Go.Fl

/- Numbers of a field in lowest terms, as the programs reckon them. No program in sight. -/
namespace Go.Fl
open Go
theorem cmpZ_z {y : Int} : cmpZ y 0 = 0 ↔ y = 0 := by unfold cmpZ; split <;> (try split) <;> omega
theorem gcd_stepZ {x y : Int} : Int.gcd y (x % y) = Int.gcd x y := by
 first
  | (rw [Int.gcd_comm]; exact Int.gcd_emod ..)
  | simp
  | (rw [Int.emod_def, Int.gcd_comm]; simp)
theorem gL_take {c : List Int} {g k : Nat} (hk : k < c.length) : (gL g (c.take (k + 1)) : Int) = Int.gcd (gL g (c.take k) : Int) (nth c k) := by
 have e : c.take (k + 1) = c.take k ++ [nth c k] := by
  rw [List.take_succ_eq_append_getElem hk]
  congr 2
  simp [nth, hk]
 rw [e, gL_snoc]; rfl
theorem gL_le {c : List Int} {g : Nat} (h : 0 < g) : gL g c ≤ g := Nat.le_of_dvd h gL_dvd.1
theorem dl_gL {c : List Int} {d : Int} (h : 0 < d) : dl (gL d.natAbs c : Int) ≤ dl d := digN_len_le (gL_le zo)
theorem low_tab {c : List Int} {d : Int} {k : Nat} (hd : 0 < d) (hl : c.length = k) : (tab k (fun i => nth c i / (gL d.natAbs c : Int)), d / (gL d.natAbs c : Int)) = loN c d := by
 have e : sgG d c = (gL d.natAbs c : Int) := if_neg zo
 unfold loN
 rw [e]
 refine Prod.ext ?_ rfl
 show tab k _ = c.map _
 generalize (gL d.natAbs c : Int) = G
 conv => rhs; rw [tab_nth hl]
 simp [tab]
end Go.Fl

/- Contracts: integers of the reference of chapter 1 (division, common divisors). -/
namespace Go.Fl
open Go Go.Proofs
open TrL renaming op → tO
open RunD renaming op → rO
set_option maxRecDepth 100000

set_option maxHeartbeats 2000000 in
theorem ct_rdivide (m n : Nat) (h0 : 0 < n) (hm : (digN m).length ≤ 300000) (hn : (digN n).length ≤ 300000) : Ct Tryz.prog 179 [kRd (eL eI) (digN m), kRd (eL eI) (digN n)] (kTup [kRd (eL eI) (digN (m / n)), kRd (eL eI) (digN (m % n))]) := by
 have hdn : dl (n : Int) = (digN n).length := rfl
 have hvn : val (digN n) = n := digN_val n
 refine Ct.mk Tryz.func179 rfl Tryz.ntmps179 rfl (fun w J => ?_); refine jx10 ?_; refine TrL.new (ok_makeN eI 14 rfl uu rfl uu rfl rfl rfl (fun _ => zo)) rfl rfl rfl rfl ?_; refine jx17 ?_
 refine Tr.for1 (σ := Nat × List Int × Int) [⟨0, true, _, _⟩, ⟨1, true, _, _⟩, ⟨6, true, _, _⟩] [] (fun (i, o, R) => [⟨7, true, [], kRd (eL eI) (digN R.toNat)⟩, ⟨8, true, [], kI ((i : Int) - 1)⟩]) (fun (i, o, R) => [⟨14, [], cArr false 3 eI o (digN m).length⟩]) (fun (i, o, R) => i ≤ (digN m).length ∧ ShS (digN m) o (n : Int) i R) (fun (i, o, R) => ShS (digN m) o (n : Int) 0 R) (fun (i, o, R) => i) (((digN m).length, List.replicate (digN m).length 0, 0)) ⟨Nat.le_refl _, ShS.start zo⟩ (Ent.mk (.n rfl rfl <| .i rfl zi <| zk) (.a zi zi <| .nil) rfl) ?_ ?_
 ·rintro ⟨i, o, R⟩ ⟨hi, hs⟩
  refine jn ?_
  have e1 : ((i : Int) - 1).toNat = i - 1 := by omega
  have hr0 := hs.r0
  have hRd := dv_dlR hr0
  have hRl := dlN hr0.1
  have hol := hs.len
  refine jx7 ?_; refine jq ?_ ?_
  ·intro h4
   have hs1 : ShS (digN m) o (n : Int) (i - 1 + 1) R := by rw [show i - 1 + 1 = i by omega]; exact hs
   obtain ⟨T, hTe⟩ : ∃ T, T = (R * 100000000 + nth (digN m) (i - 1)) := ⟨_, rfl⟩
   have hdq := dv_q hs1 zo
   rw [← hTe] at hdq
   obtain ⟨hT, hq0, hq1⟩ := hdq
   have hTd := dv_dlT hq1 h0 hT
   have hTl := dlN hT
   have had := (digN_dg m).at (i := i - 1) zo
   refine jx10 ?_; refine TrL.new (ok_bsl eI 26 (fun hp => .cons rfl <| .nil) rfl rfl rfl rfl) rfl rfl rfl rfl ?_; refine jx1 ?_; refine TrL.app rfl rfl rfl rfl rfl rfl rfl rfl (by have h1 : ([nth (digN m) ((i : Int) - 1).toNat]).length = 1 := rfl; omega) (by have h1 : ([nth (digN m) ((i : Int) - 1).toNat]).length = 1 := rfl; omega) ?_; refine jl ?_; refine TrL.frz 26 [28] ⟨rfl, trivial⟩ (by have h1 : ([nth (digN m) ((i : Int) - 1).toNat]).length = 1 := rfl; simp only [lenMax]; omega) rfl ?_; refine jl ?_; refine tO (ok_call (fun hp => ct_rtrim _ (by have h1 : ([nth (digN m) ((i : Int) - 1).toNat]).length = 1 := rfl; rw [List.length_append]; omega)) (.a rfl uu <| .nil)) rfl rfl ?_
   refine jx9 ?_
   refine Tr.for (σ := Int × Int) [⟨0, true, _, _⟩, ⟨1, true, _, _⟩, ⟨6, true, _, _⟩, ⟨8, true, _, _⟩] [⟨14, _, _⟩] (fun (lo, hi2) => [⟨7, true, [], kRd (eL eI) (digN T.toNat)⟩, ⟨9, true, [], kI lo⟩, ⟨10, true, [], kI hi2⟩]) (fun (lo, hi2) => []) (fun (lo, hi2) => 0 ≤ lo ∧ lo ≤ T / n ∧ T / n ≤ hi2 ∧ hi2 ≤ 99999999) (fun (lo, hi2) => T / n = lo) (fun (lo, hi2) => (hi2 - lo).toNat) ((0, 99999999)) ⟨by omega, by omega, by omega, by omega⟩ (Ent.mk (.r rfl (by rw [hTe, ← e1]; exact dv_trim hr0.1 (by rw [e1]; exact had)) <| .i rfl zi <| .i rfl zi <| zk) (zk) rfl) ?_ ?_
   ·rintro ⟨lo, hi2⟩ ⟨hl0, hl1, hl2, hl3⟩
    refine jn ?_
    have hmid : 0 ≤ lo + hi2 + 1 := by omega
    have hme := Int.tdiv_eq_ediv_of_nonneg (b := 2) hmid
    have hmn := Int.mul_nonneg (a := (n : Int)) (b := (lo + hi2 + 1).tdiv 2) zo zo
    have hmd := dl_small (F := (lo + hi2 + 1).tdiv 2) zo zo
    have hmm := dl_mul (n : Int) ((lo + hi2 + 1).tdiv 2)
    refine jx8 ?_; refine jq ?_ ?_
    ·intro h8
     refine jx9 ?_; refine tO (ok_quo rfl uu rfl uu (fun _ => zo)) rfl rfl ?_; refine jx8 ?_; refine tO (ok_bslJ eI (fun hp => .cons rfl <| .nil) rfl rfl rfl rfl) rfl rfl ?_; refine jc (ct_rMul (digN n) [(lo + hi2 + 1).tdiv 2] (digN_dg n).inI (in1 zo) zo (by simp)) ?_; refine tO (ok_call (fun hp => ct_rzless (digN T.toNat) _ (digN_nm _) (lst_nm (by rw [hvn, val_one]; exact hmn)) zo (by rw [lst_len, hvn, val_one]; omega)) (.a rfl uu <| .a rfl uu <| .nil)) rfl rfl ?_; refine jx2 ?_; refine Tr.cnd rfl ?_ ?_
     ·intro h10
      have h10 := of_decide_eq_true h10
      rw [digN_val, lst_val, hvn, val_one, Int.toNat_of_nonneg hT] at h10
      refine jx6 ?_
      exact End.lp ((lo, (lo + hi2 + 1).tdiv 2 - 1)) ⟨by omega, by omega, dv_high zo h10, by omega⟩ (by show ((lo + hi2 + 1).tdiv 2 - 1 - lo).toNat < (hi2 - lo).toNat; omega) (Ent.mk (.r rfl zi <| .i rfl zi <| .i rfl zi <| zk) (zk) rfl)
     ·intro h10
      have h10 := of_decide_eq_false h10
      rw [digN_val, lst_val, hvn, val_one, Int.toNat_of_nonneg hT] at h10
      refine jx5 ?_
      exact End.lp (((lo + hi2 + 1).tdiv 2, hi2)) ⟨by omega, dv_low zo zo, by omega, by omega⟩ (by show (hi2 - (lo + hi2 + 1).tdiv 2).toNat < (hi2 - lo).toNat; omega) (Ent.mk (.r rfl zi <| .i rfl zi <| .i rfl zi <| zk) (zk) rfl)
    ·intro h8
     replace h8 := Int.not_lt.1 h8
     refine jx4 ?_
     exact End.cut ((lo, hi2)) zo (Ent.mk (.r rfl zi <| .i rfl zi <| .i rfl zi <| zk) (zk) rfl)
   ·rintro ⟨lo, hi2⟩ hlo
    refine jn ?_
    replace hlo : T / n = lo := hlo
    have hmd := dl_small (F := lo) zo zo
    have hmm := dl_mul (n : Int) lo
    refine jx13 ?_; refine tO (ok_bslJ eI (fun hp => .cons rfl <| .nil) rfl rfl rfl rfl) rfl rfl ?_; refine jc (ct_rMul (digN n) [lo] (digN_dg n).inI (in1 zo) zo (by simp)) ?_; refine tO (ok_call (fun hp => ct_rSub (digN T.toNat) _ (digN_dg _).inI (lst_in _) zo (by rw [lst_len, hvn, val_one]; omega)) (.a rfl uu <| .a rfl uu <| .nil)) rfl rfl ?_; refine jx9 ?_
    exact End.lp ((i - 1, o.set (i - 1) ((R * 100000000 + nth (digN m) (i - 1)) / n), (R * 100000000 + nth (digN m) (i - 1)) % n)) ⟨by omega, hs1.next (digN_dg m) zo⟩ (by show i - 1 < i; omega) (Ent.mk (.r rfl (by rw [lst_val, digN_val, Int.toNat_of_nonneg hT, hvn, val_one, ← hlo, dv_dl zo, hTe]; exact lst_dig (Int.emod_nonneg _ zo)) <| .i rfl zi <| zk) (.a (by rw [e1, ← hTe, hlo]) zi <| .nil) rfl)
  ·intro h4
   replace h4 := Int.not_le.1 h4
   refine jx4 ?_
   exact End.cut ((i, o, R)) (by obtain rfl : i = 0 := zo; exact hs) (Ent.mk (.r rfl zi <| .i rfl zi <| zk) (.a zi zi <| .nil) rfl)
 ·rintro ⟨i, o, R⟩ hs
  refine je ?_
  have hol := hs.len
  refine jx4 ?_; refine TrL.frz 14 [6, 57] ⟨rfl, rfl, trivial⟩ (by simp only [lenMax]; omega) rfl ?_; refine jl ?_; refine tO (ok_call (fun hp => ct_rtrim _ zo) (.a rfl uu <| .nil)) rfl rfl ?_; refine jx6 ?_; exact Rts.res (fn := Tryz.f179) (ts := [4, 5]) rfl rfl (.r rfl (dv_fin hs).1 <| .r rfl (dv_fin hs).2 <| .nil)

set_option maxHeartbeats 1000000 in
theorem ct_rDivMod (xs ys : List Int) (hx : InI xs) (hy : InI ys) (hn : xs.length ≤ 200000) (hm : ys.length ≤ 200000) : Ct Tryz.prog 138 [kRd (eL eI) xs, kRd (eL eI) ys] (kTup [kRd (eL eI) (if val ys = 0 then [] else lstZ (val xs / val ys)), kRd (eL eI) (if val ys = 0 then [] else lstZ (val xs % val ys)), kI (if val ys = 0 then 12 else 0)]) := by
 have hdx := dl_val hx
 have hdy := dl_val hy
 have hlx := lst_len (val xs)
 have hly := lst_len (val ys)
 have hl0 := lst_len0 (z := val ys)
 have hrz := digN_len0 (n := (val xs).natAbs % (val ys).natAbs)
 have hdq : dl (((val xs).natAbs / (val ys).natAbs : Nat) : Int) = (digN ((val xs).natAbs / (val ys).natAbs)).length := rfl
 have hdr : dl (((val xs).natAbs % (val ys).natAbs : Nat) : Int) = (digN ((val xs).natAbs % (val ys).natAbs)).length := rfl
 have hdX : (digN (val xs).natAbs).length = dl (val xs) := rfl
 have hdY : (digN (val ys).natAbs).length = dl (val ys) := rfl
 have hql := digN_len_le (m := (val xs).natAbs) (n := (val xs).natAbs / (val ys).natAbs) (Nat.div_le_self _ _)
 have h11 : ([1] : List Int).length = 1 := rfl
 refine Ct.mk Tryz.func138 rfl Tryz.ntmps138 rfl (fun w J => ?_); refine jx10 ?_; refine tO (ok_call (fun hp => ct_rNormal _ (by assumption) zo) (.a rfl uu <| .nil)) rfl rfl ?_; refine jx1 ?_; refine tO (ok_call (fun hp => ct_rNormal _ (by assumption) zo) (.a rfl uu <| .nil)) rfl rfl ?_; refine jx12 ?_; refine jq ?_ ?_
 ·intro h2
  have hy0 : val ys = 0 := by omega
  refine jx9 ?_; exact Rts.res (fn := Tryz.f138) (ts := [4, 5, 6]) rfl rfl (.n rfl (by rw [if_pos hy0]) <| .n rfl (by rw [if_pos hy0]) <| .i rfl (by rw [if_pos hy0]) <| .nil)
 ·intro h2
  have hy0 : val ys ≠ 0 := by omega
  have hlt : (val xs).natAbs % (val ys).natAbs < (val ys).natAbs := Nat.mod_lt _ zo
  have hrl := digN_len_le (m := (val ys).natAbs) (n := (val xs).natAbs % (val ys).natAbs) zo
  refine jx5 ?_; refine jc (ct_rsize (val xs) zo) ?_; refine jx1 ?_; refine jc (ct_rsize (val ys) zo) ?_; refine jc (ct_rdivide (val xs).natAbs (val ys).natAbs zo zo zo) ?_; refine jx11 ?_; refine jc (ct_rNegative (val xs)) ?_; refine jx2 ?_; refine Tr.cnd rfl ?_ ?_
  ·intro h5
   have hxn := of_decide_eq_true h5
   refine jx3 ?_; refine tO (ok_call (fun hp => ct_rNeg _ (digN_dg _).inI zo) (.a rfl uu <| .nil)) rfl rfl ?_; refine jx1 ?_; refine tO (ok_call (fun hp => ct_rNeg _ (digN_dg _).inI zo) (.a rfl uu <| .nil)) rfl rfl ?_; refine jx11 ?_; refine Tr.cnd rfl ?_ ?_
   ·intro h7
    have hrp : 0 < (val xs).natAbs % (val ys).natAbs := by (have h7 := of_decide_eq_true h7; rw [lst_len, digN_val, dl_neg, hdr] at h7; omega)
    obtain ⟨o1, o2⟩ := over_B hy0 hxn hrp
    refine jx2 ?_; refine tO (ok_bslJ eI (fun hp => .cons rfl <| .nil) rfl rfl rfl rfl) rfl rfl ?_; refine tO (ok_call (fun hp => ct_rSub _ [1] (lst_in _) (in1 zo) (by rw [lst_len, digN_val, dl_neg, hdq]; omega) zo) (.a rfl uu <| .a rfl uu <| .nil)) rfl rfl ?_; refine jx2 ?_; refine jc (ct_rsize (val ys) zo) ?_; refine tO (ok_call (fun hp => ct_rAdd _ _ (lst_in _) (digN_dg _).inI (by rw [lst_len, digN_val, dl_neg, hdr]; omega) zo) (.a rfl uu <| .a rfl uu <| .nil)) rfl rfl ?_; refine jx8 ?_; refine jc (ct_rNegative (val ys)) ?_; refine jx2 ?_; refine Tr.cnd rfl ?_ ?_
    ·intro h9
     have hyn := of_decide_eq_true h9
     have hQ1 := dlq1 (q := (val xs).natAbs / (val ys).natAbs)
     have hQ2 := dlq2 (q := (val xs).natAbs / (val ys).natAbs)
     refine jx2 ?_
     refine tO (ok_call (fun hp => ct_rNeg _ (by first | exact lst_in _ | exact (digN_dg _).inI) zo) (.a rfl uu <| .nil)) rfl rfl ?_
     refine jx13 ?_; exact Rts.res (fn := Tryz.f138) (ts := [4, 5, 6]) rfl rfl (.r rfl (by rw [if_neg hy0, o1, if_neg (show ¬ sgd (val xs) (val ys) from by rw [sgd_iff]; omega), lst_val, lst_val, val_one, digN_val]; congr 1; omega) <| .r rfl (by rw [if_neg hy0, o2, lst_val, digN_val, digN_val]; congr 1; omega) <| .i rfl (by rw [if_neg hy0]) <| .nil)
    ·intro h9
     have hyn := of_decide_eq_false h9
     refine jx12 ?_; exact Rts.res (fn := Tryz.f138) (ts := [4, 5, 6]) rfl rfl (.r rfl (by rw [if_neg hy0, o1, if_pos (show sgd (val xs) (val ys) from by rw [sgd_iff]; omega), lst_val, val_one, digN_val]; congr 1; omega) <| .r rfl (by rw [if_neg hy0, o2, lst_val, digN_val, digN_val]; congr 1; omega) <| .i rfl (by rw [if_neg hy0]) <| .nil)
   ·intro h7
    have hrp : (val xs).natAbs % (val ys).natAbs = 0 := by (have h7 := of_decide_eq_false h7; rw [lst_len, digN_val, dl_neg, hdr] at h7; omega)
    obtain ⟨o1, o2⟩ := over_A (a := val xs) hy0 (fun hh => by omega)
    refine jx6 ?_; refine jc (ct_rNegative (val ys)) ?_; refine jx2 ?_; refine Tr.cnd rfl ?_ ?_
    ·intro h9
     have hyn := of_decide_eq_true h9
     have hQ1 := dlq1 (q := (val xs).natAbs / (val ys).natAbs)
     have hQ2 := dlq2 (q := (val xs).natAbs / (val ys).natAbs)
     refine jx2 ?_
     refine tO (ok_call (fun hp => ct_rNeg _ (by first | exact lst_in _ | exact (digN_dg _).inI) zo) (.a rfl uu <| .nil)) rfl rfl ?_
     refine jx13 ?_; exact Rts.res (fn := Tryz.f138) (ts := [4, 5, 6]) rfl rfl (.r rfl (by rw [if_neg hy0, o1, if_neg (show ¬ sgd (val xs) (val ys) from by rw [sgd_iff]; omega), lst_val, digN_val]; congr 1; omega) <| .r rfl (by rw [if_neg hy0, o2, digN_val]; congr 1; omega) <| .i rfl (by rw [if_neg hy0]) <| .nil)
    ·intro h9
     have hyn := of_decide_eq_false h9
     refine jx12 ?_; exact Rts.res (fn := Tryz.f138) (ts := [4, 5, 6]) rfl rfl (.r rfl (by rw [if_neg hy0, o1, if_pos (show sgd (val xs) (val ys) from by rw [sgd_iff]; omega), digN_val]) <| .r rfl (by rw [if_neg hy0, o2, digN_val]; congr 1; omega) <| .i rfl (by rw [if_neg hy0]) <| .nil)
  ·intro h5
   have hxn := of_decide_eq_false h5
   obtain ⟨o1, o2⟩ := over_A hy0 (fun hh => hxn hh.1)
   refine jx6 ?_; refine jc (ct_rNegative (val ys)) ?_; refine jx2 ?_; refine Tr.cnd rfl ?_ ?_
   ·intro h9
    have hyn := of_decide_eq_true h9
    have hQ1 := dlq1 (q := (val xs).natAbs / (val ys).natAbs)
    have hQ2 := dlq2 (q := (val xs).natAbs / (val ys).natAbs)
    refine jx2 ?_
    refine tO (ok_call (fun hp => ct_rNeg _ (by first | exact lst_in _ | exact (digN_dg _).inI) zo) (.a rfl uu <| .nil)) rfl rfl ?_
    refine jx13 ?_; exact Rts.res (fn := Tryz.f138) (ts := [4, 5, 6]) rfl rfl (.r rfl (by rw [if_neg hy0, o1, if_pos (show sgd (val xs) (val ys) from by rw [sgd_iff]; omega), digN_val]) <| .r rfl (by rw [if_neg hy0, o2, lst_nat]) <| .i rfl (by rw [if_neg hy0]) <| .nil)
   ·intro h9
    have hyn := of_decide_eq_false h9
    refine jx12 ?_; exact Rts.res (fn := Tryz.f138) (ts := [4, 5, 6]) rfl rfl (.r rfl (by rw [if_neg hy0, o1, if_neg (show ¬ sgd (val xs) (val ys) from by rw [sgd_iff]; omega), lst_nat]) <| .r rfl (by rw [if_neg hy0, o2, lst_nat]) <| .i rfl (by rw [if_neg hy0]) <| .nil)

theorem ct_rGcd (xs ys : List Int) (hx : InI xs) (hy : InI ys) (hn : xs.length ≤ 200000) (hm : ys.length ≤ 200000) : Ct Tryz.prog 137 [kRd (eL eI) xs, kRd (eL eI) ys] (kRd (eL eI) (digN (Nat.gcd (val xs).natAbs (val ys).natAbs))) := by
 have hdx := dl_val hx
 have hdy := dl_val hy
 have hlx := lst_len (val xs)
 have hly := lst_len (val ys)
 have hdX : (digN (val xs).natAbs).length = dl (val xs) := rfl
 have hdY : (digN (val ys).natAbs).length = dl (val ys) := rfl
 refine Ct.mk Tryz.func137 rfl Tryz.ntmps137 rfl (fun w J => ?_); refine jx8 ?_; refine tO (ok_call (fun hp => ct_rNormal _ (by assumption) zo) (.a rfl uu <| .nil)) rfl rfl ?_; refine jc (ct_rsize (val xs) zo) ?_; refine jx1 ?_; refine tO (ok_call (fun hp => ct_rNormal _ (by assumption) zo) (.a rfl uu <| .nil)) rfl rfl ?_; refine jc (ct_rsize (val ys) zo) ?_; refine jx4 ?_; refine Tr.for (σ := Nat × Nat) [] [] (fun (x, y) => [⟨5, true, [], kRd (eL eI) (digN x)⟩, ⟨6, true, [], kRd (eL eI) (digN y)⟩]) (fun (x, y) => []) (fun (x, y) => (digN x).length ≤ 300000 ∧ (digN y).length ≤ 300000 ∧ Nat.gcd x y = Nat.gcd (val xs).natAbs (val ys).natAbs) (fun (x, y) => y = 0 ∧ Nat.gcd x y = Nat.gcd (val xs).natAbs (val ys).natAbs) (fun (x, y) => y) (((val xs).natAbs, (val ys).natAbs)) ⟨by omega, by omega, rfl⟩ (Ent.mk (.r rfl rfl <| .r rfl rfl <| .nil) (.nil) rfl) ?_ ?_
 ·rintro ⟨x, y⟩ ⟨hx1, hy1, hg⟩
  refine jn ?_
  have hy0 := digN_len0 (n := y)
  refine jx8 ?_; refine jq ?_ ?_
  ·intro h2
   refine jx7 ?_; refine jc (ct_rdivide x y zo zo zo) ?_; refine jx14 ?_; exact End.lp ((y, x % y)) ⟨hy1, by have := digN_len_le (m := y) (n := x % y) (Nat.le_of_lt (Nat.mod_lt _ zo)); omega, by rw [gcd_step]; exact hg⟩ (by show x % y < y; exact Nat.mod_lt _ zo) (Ent.mk (.r rfl rfl <| .r rfl rfl <| .nil) (.nil) rfl)
  ·intro h2
   replace h2 := Int.not_lt.1 h2
   refine jx4 ?_
   exact End.cut ((x, y)) ⟨by omega, hg⟩ (Ent.mk (.r rfl zi <| .r rfl zi <| .nil) (.nil) rfl)
 ·rintro ⟨x, y⟩ ⟨rfl, hg⟩
  refine jn ?_; refine jx7 ?_; exact Rts.res1 (fn := Tryz.f137) rfl (.r rfl (by rw [← hg, Nat.gcd_zero_right]) <| .nil)

end Go.Fl

/- Contracts: numbers of a field in lowest terms. -/
namespace Go.Fl
open Go Go.Proofs
open TrL renaming op → tO
open RunD renaming op → rO
set_option maxRecDepth 100000

theorem ct_fcommon (a b : Int) (ha : dl a ≤ 800000) (hb : dl b ≤ 800000) : Ct Tryz.prog 205 [kRd eW (wh a), kRd eW (wh b)] (kRd eW (wh (Int.gcd a b))) := by
 refine Ct.mk Tryz.func205 rfl Tryz.ntmps205 rfl (fun w J => ?_); refine jx2 ?_; refine jb 2 rfl ?_; refine jb 3 rfl ?_; refine ja 4 ?_; refine jx2 ?_; refine Tr.for (σ := Int × Int) [⟨2, true, _, _⟩, ⟨3, true, _, _⟩, ⟨4, true, _, _⟩] [⟨4, _, _⟩] (fun ⟨x, y⟩ => []) (fun ⟨x, y⟩ => [⟨2, [], cBlk [kB (decide (x < 0)), kRd (eL eI) (digN (x).natAbs)]⟩, ⟨3, [], cBlk [kB (decide (y < 0)), kRd (eL eI) (digN (y).natAbs)]⟩]) (fun ⟨x, y⟩ => Int.gcd x y = Int.gcd a b ∧ dl x ≤ 800000 ∧ dl y ≤ 800000) (fun ⟨x, y⟩ => x.natAbs = Int.gcd a b) (fun ⟨x, y⟩ => y.natAbs) ((a, b)) ⟨rfl, ha, hb⟩ (Ent.mk (zk) (zk) rfl) ?_ ?_
 ·rintro ⟨x, y⟩ ⟨hg, hx, hy⟩
  refine jn ?_; refine jx4 ?_; refine jc (ct_wsign y) ?_; refine jx3 ?_; refine jq ?_ ?_
  ·intro h1
   have hy0 : y ≠ 0 := fun e => h1 (cmpZ_z.2 e)
   refine jx7 ?_; refine jc (ct_wover x y hy0 zo zo) ?_; refine jx3 ?_; refine ja 5 ?_; refine ja 6 ?_; refine jx4 ?_; refine Tr.drawS 2 2 mixed (by kernel_rfl) ?_; refine RunS.opA (ok_ldBS rfl uu) (by kernel_rfl) rfl rfl ?_; refine RunS.op (ok_ldBS rfl uu) rfl rfl ?_; refine RunS.z (st_B rfl rfl rfl) rfl rfl rfl ?_; refine jx3 ?_; exact End.lp ((y, x % y)) ⟨(gcd_stepZ (x := x) (y := y)).trans hg, hy, by have := dl_mod (x := x) hy0; omega⟩ (by have h2 := Int.emod_nonneg x hy0; have h3 := Int.emod_lt x hy0; show (x % y).natAbs < y.natAbs; omega) (Ent.mk (zk) (zk) rfl)
  ·intro h1
   replace h1 := Classical.not_not.1 h1
   refine jx4 ?_; exact End.cut ((x, y)) (by have e := cmpZ_z.1 h1; subst e; rw [← hg]; simp) (Ent.mk (zk) (zk) rfl)
 ·rintro ⟨x, y⟩ hE
  refine jn ?_; refine jx13 ?_; exact Rts.resC1 (fn := Tryz.f205) rfl rfl (aggRd rfl (by rw [← hE]; exact (wh_nat (n := x.natAbs))))

theorem ct_nlowest (c : List Int) (d : Int) (hc : ∀ i, dl (nth c i) ≤ 700000) (hd : dl d ≤ 700000) (hp : 0 < d) : Ct Tryz.prog 183 [kRd eNu (c, d)] (kRd eNu (loN c d)) := by
 refine Ct.mk Tryz.func183 rfl Tryz.ntmps183 rfl (fun w J => ?_); refine Tr.fact (s := 0) rfl (fun _ _ h => eNu_len h) (fun hl => ?_)
 have hl : c.length = 4 := hl
 have hG := dl_gL (c := c) hp
 have hGp := gL_pos (cs := c) (g := d.natAbs) zo
 refine jx2 ?_; refine jb 1 rfl ?_; refine ja 2 ?_; refine jx6 ?_; refine ja 3 ?_; refine jx11 ?_
 refine Tr.for1 (σ := Nat) [⟨1, true, _, _⟩, ⟨2, true, _, _⟩, ⟨3, true, _, _⟩, ⟨11, true, _, _⟩] [⟨1, _, _⟩, ⟨2, _, _⟩] (fun k => [⟨12, true, [], kI (k : Int)⟩]) (fun k => [⟨3, [], cBlk [kB (decide ((gL d.natAbs (c.take k) : Int) < 0)), kRd (eL eI) (digN ((gL d.natAbs (c.take k) : Int)).natAbs)]⟩]) (fun k => k ≤ 4) (fun k => k = 4) (fun k => 4 - k) (0) zi (Ent.mk (.i rfl zi <| zk) (.conv (cB_eq (dcell (by rw [List.take_zero]; show d = (d.natAbs : Int); omega))) rfl <| zk) rfl) ?_ ?_
 ·intro k hR0
  refine jn ?_
  have hgk := dl_gL (c := c.take k) hp
  have hck := hc k
  refine jx6 ?_; refine jq ?_ ?_
  ·intro h3
   refine jx6 ?_; refine tO (ok_idxW rfl uu rfl uu (fun _ => zo)) rfl rfl ?_; refine ja 5 ?_; refine jx6 ?_; refine jc (ct_fcommon (gL d.natAbs (c.take k) : Int) (nth c k) zo zo) ?_; refine jx8 ?_
   exact End.lp (k + 1) zi zo (Ent.mk (.i rfl zi <| zk) (.conv (cB_eq (dcell (gL_take zo).symm)) rfl <| zk) rfl)
  ·intro h3
   replace h3 := Int.not_lt.1 h3
   refine jx4 ?_
   exact End.cut (k) zo (Ent.mk (.i rfl zi <| zk) (zk) rfl)
 ·rintro _ rfl
  refine je ?_
  rw [List.take_of_length_le zo]
  refine jx9 ?_
  refine Tr.for1 (σ := Nat) [⟨1, true, _, _⟩, ⟨2, true, _, _⟩, ⟨3, true, _, _⟩, ⟨20, true, _, _⟩] [⟨2, _, _⟩, ⟨3, _, _⟩] (fun k => [⟨21, true, [], kI (k : Int)⟩]) (fun k => [⟨1, [], cBlk (wC (fun i => if i < k then nth c i / (gL d.natAbs c : Int) else nth c i) 0 4 ++ [kB (decide (d < 0)), kRd (eL eI) (digN (d).natAbs)])⟩]) (fun k => k ≤ 4) (fun k => k = 4) (fun k => 4 - k) (0) zi (Ent.mk (.i rfl zi <| zk) (.conv (cW (fun j _ => (if_neg zo).symm) rfl) rfl <| zk) rfl) ?_ ?_
  ·intro k hR1
   refine jn ?_
   have hck := hc k
   have hgk : k < 4 → (if k < k then nth c k / (gL d.natAbs c : Int) else nth c k) = nth c k := fun _ => if_neg zo
   refine jx6 ?_; refine jq ?_ ?_
   ·intro h8
    refine jx7 ?_; refine tO (ok_idxW rfl uu rfl uu (fun _ => zo)) rfl rfl ?_; refine ja 7 ?_; refine jx8 ?_; refine jc (ct_wover (nth c k) (gL d.natAbs c : Int) zo zo zo) ?_; refine jx4 ?_; refine tO (ok_idxArrO rfl uu rfl uu (fun _ => zo)) rfl rfl ?_; refine TrL.stW (k) zo zo rfl rfl rfl ?_; refine jx7 ?_
    exact End.lp (k + 1) zi zo (Ent.mk (.i rfl zi <| zk) (.conv (cW (fun j _ => by simp only [upd]; by_cases e : j = k; (rw [if_pos e, if_pos zo, e]); (rw [if_neg e]; by_cases e2 : j < k; (rw [if_pos e2, if_pos zo]); (rw [if_neg e2, if_neg zo]))) rfl) rfl <| zk) rfl)
   ·intro h8
    replace h8 := Int.not_lt.1 h8
    refine jx4 ?_
    exact End.cut (k) zo (Ent.mk (.i rfl zi <| zk) (zk) rfl)
  ·rintro _ rfl
   refine je ?_; refine jx6 ?_; refine jc (ct_wover d (gL d.natAbs c : Int) zo zo zo) ?_; refine jx14 ?_; exact Rts.resC1 (fn := Tryz.f183) rfl rfl (aggRd rfl (by rw [← low_tab hp hl]; exact Prod.ext (tab_congr fun i hi => if_pos hi) rfl))

end Go.Fl

/- Reduction modulo the polynomial of a field, as the program reckons it: in place. No program in sight. -/
namespace Go.Fl
open Go
def stpK (p ys : List Int) (n i k : Nat) : List Int := tab ys.length fun j => if i - n ≤ j ∧ j < i - n + k then nth ys j - nth ys i * nth p (j - (i - n)) else nth ys j
theorem stpK_len {p ys : List Int} {n i k : Nat} : (stpK p ys n i k).length = ys.length := tab_len
theorem stpK_zero {p ys : List Int} {n i : Nat} : ys = stpK p ys n i 0 := by
 conv => lhs; rw [tab_nth (rfl : ys.length = ys.length)]
 exact tab_congr fun j _ => (if_neg zo).symm
theorem stpK_out {p ys : List Int} {n i k j : Nat} (hj : j < ys.length) (h : j < i - n ∨ i - n + k ≤ j) : nth (stpK p ys n i k) j = nth ys j := by
 unfold stpK
 rw [nth_tab hj, if_neg zo]
theorem stpK_succ {p ys : List Int} {n i k : Nat} (_ : k < n) (hn : n ≤ i) (_ : i < ys.length) : (stpK p ys n i k).set (i - n + k) (nth ys (i - n + k) + -(nth ys i * nth p k)) = stpK p ys n i (k + 1) := by
 unfold stpK
 rw [tab_set]
 refine tab_congr fun j hj => ?_
 by_cases e : j = i - n + k
 ·subst e
  rw [if_pos rfl, if_pos ⟨zo, zo⟩, Nat.add_sub_cancel_left]; omega
 ·rw [if_neg e]
  by_cases h : i - n ≤ j ∧ j < i - n + k
  ·rw [if_pos h, if_pos ⟨h.1, by omega⟩]
  ·rw [if_neg h, if_neg zo]
theorem nth_take' {xs : List Int} {i k : Nat} (h : i < k) : nth (xs.take k) i = nth xs i := by
 simp [nth, List.getD, h]
theorem stpK_take {p ys : List Int} {n i : Nat} (hn : n ≤ i) (hi : i < ys.length) : (stpK p ys n i n).take i = red1 p n (ys.take (i + 1)) := by
 have hl : (ys.take (i + 1)).length = i + 1 := by rw [List.length_take]; omega
 have e1 : ((stpK p ys n i n).take i).length = i := by rw [List.length_take, stpK_len]; omega
 rw [tab_nth e1]
 unfold red1
 rw [hl, Nat.add_sub_cancel]
 refine tab_congr fun j hj => ?_
 rw [nth_take' hj, nth_take' zo, nth_take' zo]
 unfold stpK
 rw [nth_tab zo]
 by_cases h : i - n ≤ j
 ·rw [if_pos ⟨h, by omega⟩, if_pos h]
 ·rw [if_neg zo, if_neg h, Int.sub_zero]
theorem red_red1 {p xs : List Int} {n : Nat} (hp : p.length - 1 = n) (h : n < xs.length) : red p (red1 p n xs) = red p xs := by
 unfold red
 rw [hp, red1_len]
 obtain ⟨f, hf⟩ : ∃ f, xs.length - n = f + 1 := ⟨xs.length - n - 1, by omega⟩
 rw [hf, show xs.length - 1 - n = f by omega]
 conv => rhs; rw [redF, if_neg zo]
theorem red_short {p xs : List Int} {n : Nat} (hp : p.length - 1 = n) (h : xs.length ≤ n) : red p xs = xs ++ List.replicate (n - xs.length) 0 := by
 unfold red
 rw [hp, show xs.length - n = 0 by omega, redF]
theorem red_round {p ys : List Int} {n m : Nat} (hp : p.length - 1 = n) (hm : n < m) (hl : m ≤ ys.length) : red p ((stpK p ys n (m - 1) n).take (m - 1)) = red p (ys.take m) := by
 rw [stpK_take zo zo, show m - 1 + 1 = m by omega]
 exact red_red1 hp (by rw [List.length_take]; omega)
theorem dl_step {a b q : Int} {A B : Nat} (ha : dl a ≤ A) (hb : dl b ≤ B) (hq : dl q ≤ 1) : dl (a + -(b * q)) ≤ max A (B + 1) + 1 := by
 have h1 := dl_add a (-(b * q))
 rw [dl_neg] at h1
 have h2 := dl_mul b q
 omega
theorem stpK_dl {p ys : List Int} {n i k B : Nat} (_ : n ≤ i) (_ : i < ys.length) (hy : ∀ j, dl (nth ys j) ≤ B) (hp : ∀ j, dl (nth p j) ≤ 1) (j : Nat) : dl (nth (stpK p ys n i k) j) ≤ B + 2 := by
 by_cases hj : j < ys.length
 ·unfold stpK
  rw [nth_tab hj]
  split
  ·rw [Int.sub_eq_add_neg]
   have := dl_step (hy j) (hy i) (hp (j - (i - n)))
   omega
  ·have := hy j; omega
 ·have : nth (stpK p ys n i k) j = 0 := by simp [nth, List.getD, List.getElem?_eq_none (show (stpK p ys n i k).length ≤ j by rw [stpK_len]; omega)]
  rw [this]
  have : dl 0 = 0 := dl_zero.2 rfl
  omega
def pad (p xs : List Int) : List Int := tab 4 (nth (red p xs))
theorem pad_len {p xs : List Int} : (pad p xs).length = 4 := tab_len
theorem nth_pad {p xs : List Int} {i : Nat} (h : i < 4) : nth (pad p xs) i = nth (red p xs) i := nth_tab h
theorem nth_app0 {xs : List Int} {k i : Nat} : nth (xs ++ List.replicate k 0) i = if i < xs.length then nth xs i else 0 := by
 split
 ·rename_i h; simp [nth, List.getD, List.getElem?_append_left h]
 ·rename_i h
  simp only [nth, List.getD, List.getElem?_append_right (Nat.le_of_not_lt h), List.getElem?_replicate]
  split <;> rfl
theorem low_neg {xs : List Int} {d : Int} (hd : d ≠ 0) : loN (xs.map fun c => -c) (-d) = loN xs d := by
 have := low_scale (cs := xs) (d := d) (m := -1) hd (by decide)
 rw [← this]
 congr 1
 ·exact List.map_congr_left fun c _ => by omega
 ·omega
theorem dl_red {p xs : List Int} {ys : List Int} {n m B : Nat} (hp : p.length - 1 = n) (hm : m ≤ n) (hl : m ≤ ys.length) (he : red p (ys.take m) = red p xs) (hy : ∀ j, dl (nth ys j) ≤ B) (i : Nat) : nth (red p xs) i = (if i < m then nth ys i else 0) ∧ dl (nth (red p xs) i) ≤ B := by
 have hlen : (ys.take m).length = m := by rw [List.length_take]; omega
 rw [← he, red_short hp zo, nth_app0, hlen]
 split
 ·rename_i h; rw [nth_take' h]; exact ⟨rfl, hy i⟩
 ·exact ⟨rfl, by rw [dl_zero.2 rfl]; omega⟩
theorem dl_tab {F : Nat → Int} {k B : Nat} (h : ∀ i, i < k → dl (F i) ≤ B) (i : Nat) : dl (nth (tab k F) i) ≤ B := by
 by_cases hi : i < k
 ·rw [nth_tab hi]; exact h i hi
 ·have : nth (tab k F) i = 0 := by simp [nth, List.getD, List.getElem?_eq_none (show (tab k F).length ≤ i by rw [tab_len]; omega)]
  rw [this, dl_zero.2 rfl]; omega
theorem neg_tab {c : List Int} {k : Nat} (hl : c.length = k) : (c.map fun z => -z) = tab k fun i => -nth c i := by
 conv => lhs; rw [tab_nth hl]
 simp [tab]
theorem eta4 {v : List Int × Int} (h : v.1.length = 4) : (tab 4 (nth v.1), v.2) = v := Prod.ext (tab_nth h).symm rfl
def adV (x y : List Int × Int) : List Int × Int := loN (tab 4 fun i => nth x.1 i * y.2 + nth y.1 i * x.2) (x.2 * y.2)
theorem dl_adV {x y : List Int × Int} {A : Nat} (hx : ∀ i, dl (nth x.1 i) ≤ A) (hy : ∀ i, dl (nth y.1 i) ≤ A) (hdx : dl x.2 ≤ A) (hdy : dl y.2 ≤ A) (i : Nat) : dl (nth x.1 i * y.2 + nth y.1 i * x.2) ≤ 2 * A + 1 := by
 have h1 := hx i
 have h2 := hy i
 have h3 := dl_mul (nth x.1 i) y.2
 have h4 := dl_mul (nth y.1 i) x.2
 have h5 := dl_add (nth x.1 i * y.2) (nth y.1 i * x.2)
 omega
end Go.Fl

/- A part of an array of the call's own, as a slice; copies of integers into it. -/
namespace Go.Fl
open Go Go.RowKit
set_option maxRecDepth 100000
theorem run_copy_w {P : Program} (w : World) (dT sT ty elem : TypeId) (g o dLen dCap sz n : Nat) (src : Value) (cur : Array Value) (t : TypeId) (cs : List Value) (hu : P.underlying dT = some (.slice elem)) (hs : (P.info? elem).map (·.size) = some sz)
  (hg : w.heap[g]? = some (.cells cur t (0, 0))) (hl : (Builtin.lenOf src).run P w = .ok n w) (hf : (Builtin.firstCells sz (Nat.min n dLen) src).run P w = .ok cs.toArray w) (hfit : o + cs.length ≤ cur.size) (h1 : ∀ v ∈ cs, v.oneCell' = true) :
  (Builtin.copy_ #[dT, sT] ty #[.slice (some ⟨g, o, none⟩) dLen dCap, src]).run P w = .ok (goInt (Nat.min n dLen)) (w.setRow g (cur.toList.take o ++ cs ++ cur.toList.drop (o + cs.length)).toArray) := by
 have hst := run_storeCells_at P g o t cs 0 cur w hg (by simpa using hfit) h1
 cases hq : P.info? elem with
 | none => simp [hq] at hs
 | some i =>
  have hi : i.size = sz := by simpa [hq] using hs
  simp [Builtin.copy_, run_underlying hu, sizeOf, typeInfo, hq, hi, hl, hf, hst]
def kBsl (t o l c : Nat) : Know := fun g v => ∃ b cap, g.M t = some (.blk b cap) ∧ v = .slice (some ⟨b, o, none⟩) l c
instance (t o l c : Nat) : KDep (kBsl t o l c) [t] := ⟨fun _ hd ⟨b, cap, h1, h2⟩ => ⟨b, cap, (hd t (by simp)).trans h1, h2⟩⟩
section
variable {P : Program} {c : Ctx} {S : Slots} {M : Conts} {p : Bool} {d : Option Tmp} {ty : TypeId} {pos : String} {af : Array Edge} {gd : Option (Nat × Bool)} {x y : Operand} {b b' : Bool}
theorem ok_slArrO {t et : TypeId} {n : Nat} [ht : TyArr P t n et] {sz by' : Nat} {zz : Value} [hz : TySz P et sz by' zz] {u o : Nat} {ik : IntKind} {i0 : Int} (hx : opK S x = some (b, kOwn u o)) (hb : p = true → b = true) (hy : opK S y = some (b', kInt ik i0)) (hb' : p = true → b' = true)
  (h : p = true → 0 ≤ i0 ∧ i0 ≤ n) : OpOk P c S M ⟨d, .slice t x none (some y) none, ty, pos, af, gd⟩ p (kBsl u o i0.toNat n) none :=
 OpOk.pure fun hp a g w _ _ ho => by
  obtain ⟨bl, cap, h1, h2⟩ := ho x (by simp [Op.operands]) b _ hx (hb hp)
  have hi : a.eval y = _ := ho y (by simp [Op.operands]) b' _ hy (hb' hp)
  have hlt := h hp
  obtain ⟨ti, hti, rfl, _, _⟩ := hz.h
  refine ⟨.slice (some ⟨bl, o, none⟩) i0.toNat n, ?_, bl, cap, h1, rfl⟩
  have hbd : (Instr.sliceBounds false n n none (some (.int ik i0)) none).run P w = .ok (0, i0.toNat, n) w := by
   simp [Instr.sliceBounds, Instr.sliceBound, asIntOf, hlt]
  simp only [execOp, hi, h2, Option.map, Sem.run_bind]
  unfold Instr.sliceAt
  simp only [Sem.run_bind, run_underlying ht.h, Result.andThen_ok, Instr.sureAddr, Sem.run_pure, hbd]
  simp [sizeOf, typeInfo, hti, Addr.add]
end
section
variable {P : Program} {c : Ctx} {ops : Array Oper} {S : Slots} {M : Conts} {rest : List Oper} {Q : Exit → Act → World → Prop} {x y : Operand}
variable {d : Nat} {ty : TypeId} {pos : String} {af : Array Edge}
theorem wC_succ {f : Nat → Int} {i m : Nat} {z : Int} (h : f i = z) : wC f i (m + 1) = kB (decide (z < 0)) :: kRd (eL eI) (digN z.natAbs) :: wC f (i + 1) m := by subst h; rfl
theorem wC_cpy {ys : List Int} {g : Gh} : ∀ {k : Nat} {f : Nat → Int} {i m : Nat} {r : List Know} {cs vs : List Value}, allK g (wC f i m ++ r) cs → k ≤ m → k ≤ ys.length → rdA eZ g.J vs (ys.take k) → allK g (wC (fun j => if i ≤ j ∧ j < i + k then nth ys (j - i) else f j) i m ++ r) (vs ++ cs.drop (2 * k)) := by
 intro k
 induction ys generalizing k with
 | nil =>
  intro f i m r cs vs h _ hk hv
  obtain rfl : k = 0 := by simpa using hk
  have hv : vs = [] := hv
  subst hv
  rw [wC_congr (f' := f) fun j _ _ => if_neg zo]
  simpa using h
 | cons y ys ih =>
  intro f i m r cs vs h hkm hk hv
  cases k with
  | zero =>
   have hv : vs = [] := hv
   subst hv
   rw [wC_congr (f' := f) fun j _ _ => if_neg zo]
   simpa using h
  | succ k =>
   cases m with
   | zero => omega
   | succ m =>
    rw [List.take_succ_cons] at hv
    obtain ⟨c1, c2, rfl, q1, q2⟩ := hv
    match cs, h with
    | a :: b :: cs, ⟨h1, h2, h3⟩ =>
     have hr := ih (k := k) (f := f) (i := i + 1) (m := m) h3 zo (by simpa using hk) q2
     have e0 : (fun j => if i ≤ j ∧ j < i + (k + 1) then nth (y :: ys) (j - i) else f j) i = y := by simp [nth]
     rw [List.append_assoc, show 2 * (k + 1) = 2 * k + 2 by omega, List.drop_succ_cons, List.drop_succ_cons]
     rw [wC_succ e0, wC_congr (f' := fun j => if i + 1 ≤ j ∧ j < i + 1 + k then nth ys (j - (i + 1)) else f j) (fun j hj _ => by
      by_cases e : j < i + (k + 1)
      ·rw [if_pos ⟨by omega, e⟩, if_pos ⟨hj, by omega⟩, show j - i = (j - (i + 1)) + 1 by omega]; rfl
      ·rw [if_neg zo, if_neg zo])]
     exact (inferInstance : EncCells eZ y _ _).imp q1 hr
theorem TrL.cpW {t et : TypeId} [ht : TySl P t et] {by' : Nat} {zz : Value} [hz : TySz P et 2 by' zz] {u l1 c1 m : Nat} {f : Nat → Int} {ys : List Int} {r : List Know} {dep dep' : List Nat} {M' : Conts} (k : Nat) (hx : opK S x = some (true, kBsl u 0 l1 c1)) (hy : opK S y = some (true, kRd (eL eZ) ys)) [hl : LkM M u (cBlk (wC f 0 m ++ r)) dep]
  (hk : k = min ys.length l1) (hm : l1 ≤ m) [hd : KsDep (wC (fun j => if j < k then nth ys j else f j) 0 m ++ r) dep'] [hup : UpM M u (cBlk (wC (fun j => if j < k then nth ys j else f j) 0 m ++ r)) dep' M'] (hs : subT dep' (tags M) = true) (hn : Nat.blt d c.n = true)
  (K : TrL P c ops (⟨d, true, [], kI k⟩ :: S) M' rest Q) : TrL P c ops S M (⟨some d, .call { callee := .builtin .copy, args := #[x, y], argTypes := #[t, t] }, ty, pos, af, none⟩ :: rest) Q := by
 intro a g w hsat
 have hdn : d < c.n := by simpa [Nat.blt_eq] using hn
 obtain ⟨b, cap, hm1, he⟩ := opK_holds hsat.slots hx rfl
 obtain ⟨cs0, ⟨ad, cp, rfl, k2, k3⟩, hv⟩ := opK_holds hsat.slots hy rfl
 simp only [eL, Bool.false_eq_true, if_false, List.headD_cons] at hv
 obtain ⟨cs, tt, h3, h4⟩ := blk_of (ks := wC f 0 m ++ r) hsat.conts hm1
 obtain ⟨ti, hti, hts, _, _⟩ := hz.h
 have hcl := allK_len h4
 simp only [Array.length_toList, List.length_append, wC_len] at hcl
 obtain ⟨vs, hvs, hfc⟩ : ∃ vs, rdA eZ g.J vs (ys.take k) ∧ (Builtin.firstCells 2 (Nat.min ys.length l1) (a.eval y)).run P w = .ok vs.toArray w := by
  have hkk : Nat.min ys.length l1 = k := hk.symm
  rw [hkk, hv]
  rcases k3 with rfl | ⟨bl, o, rfl, hrow⟩
  ·have hk0 : k = 0 := by simpa using hk
   subst hk0
   refine ⟨[], rfl, ?_⟩
   cases ad with
   | none => rfl
   | some ad =>
    have := run_loadCells_list (P := P) w ad [] (fun j v hj => by simp at hj)
    simpa [Builtin.firstCells] using this
  ·have key : ∀ (n i : Nat) (zs : List Int), zs.length = n → (∀ j x, zs[j]? = some x → ∃ ds, eZ.rd g.J ds x ∧ cellsAt g.J bl (o + (i + j) * 2) ds) → ∃ vs, rdA eZ g.J vs zs ∧ cellsAt g.J bl (o + i * 2) vs := by
    intro n
    induction n with
    | zero => intro i zs hz _; rw [List.eq_nil_of_length_eq_zero hz]; exact ⟨[], rfl, fun j v hj => by simp at hj⟩
    | succ n ih =>
     intro i zs hz hr
     match zs, hz with
     | z :: zs, hz =>
      obtain ⟨ds, q1, q2⟩ := hr 0 z rfl
      obtain ⟨vs, r1, r2⟩ := ih (i + 1) zs (by simpa using hz) (fun j x hx => by
       obtain ⟨es, s1, s2⟩ := hr (j + 1) x (by simpa using hx)
       exact ⟨es, s1, by rwa [show i + 1 + j = i + (j + 1) by omega]⟩)
      refine ⟨ds ++ vs, ⟨ds, vs, rfl, q1, r1⟩, fun j v hj => ?_⟩
      have hl := eZ.len q1
      rw [show eZ.n = 2 from rfl] at hl
      rw [List.getElem?_append] at hj
      split at hj
      ·have := q2 j v hj
       rwa [Nat.add_zero] at this
      ·have := r2 _ v hj
       rwa [show o + (i + 1) * 2 + (j - ds.length) = o + i * 2 + j by omega] at this
   obtain ⟨vs, r1, r2⟩ := key _ 0 (ys.take k) rfl (fun j x hx => by
    rw [List.getElem?_take] at hx
    split at hx
    ·obtain ⟨ds, q1, q2⟩ := hrow j x hx
     exact ⟨ds, q1, by rw [Nat.zero_add]; exact q2⟩
    ·cases hx)
   refine ⟨vs, r1, ?_⟩
   have hlen := rdA_len r1
   rw [List.length_take, show eZ.n = 2 from rfl] at hlen
   have := run_loadCells_list (P := P) w ⟨bl, o, none⟩ vs (fun j v hj => by
    have := hsat.ok.im _ _ _ (r2 j v hj)
    rw [Addr.add_lit]
    simpa using this)
   rw [hlen, show min k ys.length = k by omega] at this
   simpa [Builtin.firstCells] using this
 have hvl : vs.length = k * 2 := by
  have := rdA_len hvs
  rw [List.length_take, show eZ.n = 2 from rfl] at this
  rw [this]; congr 1; omega
 have hr := run_copy_w (P := P) w t t ty et b 0 l1 c1 2 ys.length (a.eval y) cs tt vs ht.h (by rw [hti]; simp [hts]) h3 (by rw [hv]; simp [Builtin.lenOf]) hfc zo (rdA_all1 hvs)
 refine wpList_plain rfl fun K' hK' => ?_
 unfold Oper.wp
 simp only [execOp, resolve, Sem.run_bind, Sem.run_pure, Result.andThen_ok, invoke, builtin, List.map_toArray, List.map_cons, List.map_nil]
 rw [he, hr]
 simp only [Result.andThen_ok, Oper.upon]
 have hnew := wC_cpy (ys := ys) h4 (k := k) zo zo hvs
 rw [wC_congr (f' := fun j => if j < k then nth ys j else f j) (fun j _ _ => by
  by_cases e : j < k
  ·rw [if_pos ⟨Nat.zero_le _, by omega⟩, if_pos e, Nat.sub_zero]
  ·rw [if_neg zo, if_neg e])] at hnew
 have hst := hsat.store hm1 h3 hup ⟨_, _, rfl, (by simpa [hvl, Nat.mul_comm] using hnew : allK g _ (cs.toList.take 0 ++ vs ++ cs.toList.drop (0 + vs.length)).toArray.toList)⟩ inferInstance (subT_spec hs)
 refine hK' _ _ (K _ g _ (hst.did (Did.same hst.ok (k := kI k) ?_) (fun _ h => by cases h) inferInstance (fun _ h => by cases h) hdn))
 show goInt (Nat.min ys.length l1) = _
 rw [show Nat.min ys.length l1 = k from hk.symm]
 rfl
theorem allK_two {g : Gh} {a b : Know} {vs : List Value} (h : allK g [a, b] vs) : ∃ u v, vs = [u, v] ∧ a g u ∧ b g v := by
 match vs, h with
 | [u, v], h => exact ⟨u, v, rfl, h.1, h.2.1⟩
theorem upd_map {F C : Nat → Int} {k j : Nat} {z : Int} (hz : z = F k) : upd (fun i => if i < k then F i else C i) k z j = if j < k + 1 then F j else C j := by
 unfold upd
 by_cases e : j = k
 ·subst e; rw [if_pos rfl, if_pos (Nat.lt_succ_self _), hz]
 ·rw [if_neg e]
  show (if j < k then F j else C j) = _
  by_cases h : j < k
  ·rw [if_pos h, if_pos zo]
  ·rw [if_neg h, if_neg zo]
theorem Tr.conC {code : Code} (v : Nat) {ct ct' : Cont} {dep dep' : List Nat} {M' : Conts} [hl : LkM M v ct dep] (hc : ∀ g b o, ct g b o → ct' g b o) [hd : CDep ct' dep'] [hup : UpM M v ct' dep' M'] (hs : subT dep' (tags M) = true) (K : Tr P c S M' code Q) : Tr P c S M code Q :=
 fun a g w h => K a g w (h.conC hc hd hup (subT_spec hs))
theorem wC_zero {r r' : List Know} (hr : ∀ g vs, allK g r vs → allK g r' vs) : ∀ g b o, cBlk ([kB false, kDet (.slice none 0 0), kB false, kDet (.slice none 0 0), kB false, kDet (.slice none 0 0), kB false, kDet (.slice none 0 0)] ++ r) g b o → cBlk (wC (fun _ => 0) 0 4 ++ r') g b o := fun g _ _ ⟨cs, ty, h1, h2⟩ => ⟨cs, ty, h1, by
 have hz : ∀ v, kDet (.slice none 0 0) g v → kRd (eL eI) (digN (0 : Int).natAbs) g v := fun v h => by
  cases h
  exact ⟨_, rd_nil (c := 0), rfl⟩
 match h : cs.toList, h2 with
 | a0 :: b0 :: a1 :: b1 :: a2 :: b2 :: a3 :: b3 :: vs, ⟨q0, p0, q1, p1, q2, p2, q3, p3, hvs⟩ => exact ⟨q0, hz _ p0, q1, hz _ p1, q2, hz _ p2, q3, hz _ p3, hr _ _ hvs⟩⟩
end
end Go.Fl

/- Contracts: numbers of a field (reduction modulo its polynomial, sums, negatives). -/
namespace Go.Fl
open Go Go.Proofs
open TrL renaming op → tO
open RunD renaming op → rO
set_option maxRecDepth 100000

abbrev RlT := FdT × List Int × List Int × Int × Int × Int
abbrev NumT := List (List Int) × List Int
def eReal : Enc RlT := eC (fun v : RlT => (v.1, v.2.1, v.2.2.1, v.2.2.2.1, v.2.2.2.2.1, v.2.2.2.2.2, ())) (eP eFd (eP (eL eZ) (eP (eL eZ) (eP eZ (eP eZ (eP eZ eU))))))
instance {v : RlT} : CellsK (kRd eReal v) [kRd (eL eI) (v.1.1), kI (v.1.2.1), kI (v.1.2.2.1), kI (v.1.2.2.2), kRd (eL eZ) (v.2.1), kRd (eL eZ) (v.2.2.1), kB (decide (v.2.2.2.1 < 0)), kRd (eL eI) (digN (v.2.2.2.1).natAbs), kB (decide (v.2.2.2.2.1 < 0)), kRd (eL eI) (digN (v.2.2.2.2.1).natAbs), kB (decide (v.2.2.2.2.2 < 0)), kRd (eL eI) (digN (v.2.2.2.2.2).natAbs)] := inferInstanceAs (CellsK (kRd (eC (fun v : RlT => (v.1, v.2.1, v.2.2.1, v.2.2.2.1, v.2.2.2.2.1, v.2.2.2.2.2, ())) (eP eFd (eP (eL eZ) (eP (eL eZ) (eP eZ (eP eZ (eP eZ eU))))))) v) _)
instance {v : RlT} {tl : List Know} : EncCells eReal v tl (kRd (eL eI) (v.1.1) :: kI (v.1.2.1) :: kI (v.1.2.2.1) :: kI (v.1.2.2.2) :: kRd (eL eZ) (v.2.1) :: kRd (eL eZ) (v.2.2.1) :: kB (decide (v.2.2.2.1 < 0)) :: kRd (eL eI) (digN (v.2.2.2.1).natAbs) :: kB (decide (v.2.2.2.2.1 < 0)) :: kRd (eL eI) (digN (v.2.2.2.2.1).natAbs) :: kB (decide (v.2.2.2.2.2 < 0)) :: kRd (eL eI) (digN (v.2.2.2.2.2).natAbs) :: tl) := inferInstanceAs (EncCells (eC (fun v : RlT => (v.1, v.2.1, v.2.2.1, v.2.2.2.1, v.2.2.2.2.1, v.2.2.2.2.2, ())) (eP eFd (eP (eL eZ) (eP (eL eZ) (eP eZ (eP eZ (eP eZ eU))))))) v tl _)
instance {v : RlT} : Norm eReal v (kRd eReal v) := ⟨fun h => h⟩
instance {v : RlT} : FieldP eReal v 0 eFd (v.1) 0 := inferInstanceAs (FieldP (eC (fun v : RlT => (v.1, v.2.1, v.2.2.1, v.2.2.2.1, v.2.2.2.2.1, v.2.2.2.2.2, ())) (eP eFd (eP (eL eZ) (eP (eL eZ) (eP eZ (eP eZ (eP eZ eU))))))) v 0 _ _ _)
instance {v : RlT} : FieldP eReal v 1 (eL eZ) (v.2.1) 4 := inferInstanceAs (FieldP (eC (fun v : RlT => (v.1, v.2.1, v.2.2.1, v.2.2.2.1, v.2.2.2.2.1, v.2.2.2.2.2, ())) (eP eFd (eP (eL eZ) (eP (eL eZ) (eP eZ (eP eZ (eP eZ eU))))))) v 1 _ _ _)
instance {v : RlT} : FieldP eReal v 2 (eL eZ) (v.2.2.1) 5 := inferInstanceAs (FieldP (eC (fun v : RlT => (v.1, v.2.1, v.2.2.1, v.2.2.2.1, v.2.2.2.2.1, v.2.2.2.2.2, ())) (eP eFd (eP (eL eZ) (eP (eL eZ) (eP eZ (eP eZ (eP eZ eU))))))) v 2 _ _ _)
instance {v : RlT} : FieldP eReal v 3 eZ (v.2.2.2.1) 6 := inferInstanceAs (FieldP (eC (fun v : RlT => (v.1, v.2.1, v.2.2.1, v.2.2.2.1, v.2.2.2.2.1, v.2.2.2.2.2, ())) (eP eFd (eP (eL eZ) (eP (eL eZ) (eP eZ (eP eZ (eP eZ eU))))))) v 3 _ _ _)
instance {v : RlT} : FieldP eReal v 4 eZ (v.2.2.2.2.1) 8 := inferInstanceAs (FieldP (eC (fun v : RlT => (v.1, v.2.1, v.2.2.1, v.2.2.2.1, v.2.2.2.2.1, v.2.2.2.2.2, ())) (eP eFd (eP (eL eZ) (eP (eL eZ) (eP eZ (eP eZ (eP eZ eU))))))) v 4 _ _ _)
instance {v : RlT} : FieldP eReal v 5 eZ (v.2.2.2.2.2) 10 := inferInstanceAs (FieldP (eC (fun v : RlT => (v.1, v.2.1, v.2.2.1, v.2.2.2.1, v.2.2.2.2.1, v.2.2.2.2.2, ())) (eP eFd (eP (eL eZ) (eP (eL eZ) (eP eZ (eP eZ (eP eZ eU))))))) v 5 _ _ _)
instance {ks r : List Know} {f : FdT} {p t : List Int} {a b c : Int} [h : RdOf ks (eP eFd (eP (eL eZ) (eP (eL eZ) (eP eZ (eP eZ (eP eZ eU)))))) (f, p, t, a, b, c, ()) r] : RdOf ks eReal ((f, p, t, a, b, c)) r := ⟨fun h' => h.imp h'⟩
def eNum : Enc NumT := eC (fun v : NumT => (v.1, v.2, ())) (eP (eL (eL eI)) (eP (eL eI) eU))
instance {v : NumT} : CellsK (kRd eNum v) [kRd (eL (eL eI)) (v.1), kRd (eL eI) (v.2)] := inferInstanceAs (CellsK (kRd (eC (fun v : NumT => (v.1, v.2, ())) (eP (eL (eL eI)) (eP (eL eI) eU))) v) _)
instance {v : NumT} {tl : List Know} : EncCells eNum v tl (kRd (eL (eL eI)) (v.1) :: kRd (eL eI) (v.2) :: tl) := inferInstanceAs (EncCells (eC (fun v : NumT => (v.1, v.2, ())) (eP (eL (eL eI)) (eP (eL eI) eU))) v tl _)
instance {v : NumT} : Norm eNum v (kRd eNum v) := ⟨fun h => h⟩
instance {v : NumT} : FieldP eNum v 0 (eL (eL eI)) (v.1) 0 := inferInstanceAs (FieldP (eC (fun v : NumT => (v.1, v.2, ())) (eP (eL (eL eI)) (eP (eL eI) eU))) v 0 _ _ _)
instance {v : NumT} : FieldP eNum v 1 (eL eI) (v.2) 1 := inferInstanceAs (FieldP (eC (fun v : NumT => (v.1, v.2, ())) (eP (eL (eL eI)) (eP (eL eI) eU))) v 1 _ _ _)
instance {ks r : List Know} {a : List (List Int)} {b : List Int} [h : RdOf ks (eP (eL (eL eI)) (eP (eL eI) eU)) (a, b, ()) r] : RdOf ks eNum ((a, b)) r := ⟨fun h' => h.imp h'⟩
instance : TyPtr Tryz.prog 112 := ⟨⟨_, Tryz.underlying112⟩⟩
theorem ct_degree (r : RlT) (hn : 2 ≤ r.2.1.length ∧ r.2.1.length ≤ 5) : Ct Tryz.prog 160 [kPtr eReal r] (kI ((r.2.1.length : Int) - 1)) := by
 refine Ct.mk Tryz.func160 rfl Tryz.ntmps160 rfl (fun w J => ?_); refine jx8 ?_; refine tO (ok_nilP rfl uu) rfl rfl ?_; refine jx8 ?_
 exact Rts.res1 (fn := Tryz.f160) rfl (.i rfl zi <| .nil)

theorem ct_cloneW (p : List Int) (hn : p.length ≤ 1000000) : CtN Tryz.prog 196 [kRd (eL eZ) p] (fun t => kOsl t p.length) (cArr false 160 eZ p p.length) := by
 refine CtN.mk Tryz.func196 rfl Tryz.ntmps196 rfl (fun w J => ?_); refine jx9 ?_; refine tO (ok_eqlNilJ rfl uu) rfl rfl ?_; refine jx2 ?_; refine Tr.exB (s := 4) rfl (fun b1 q1 => ?_); refine Tr.cnd rfl ?_ ?_
 ·intro h1
  have he1 : [] = p := (q1 h1).symm
  have he2 : 0 = p.length := by rw [← he1]; rfl
  refine jx5 ?_; refine Tr.grow (s := 2) rfl rfl 9 rfl 160 eZ rfl ?_; refine jx2 ?_
  exact Rts.resN (fn := Tryz.f196) (u := 9) rfl rfl (arr_res zi zi) (osl_res zi) inferInstance
 ·intro h1
  refine jx4 ?_; refine TrL.new (ok_bsl0 eZ 5) rfl rfl rfl rfl ?_; refine jx2 ?_; refine jl ?_; refine jx4 ?_
  exact Rts.resN (fn := Tryz.f196) (u := 5) rfl rfl (arr_res zi zi) (osl_res zi) inferInstance

set_option maxHeartbeats 1000000 in
theorem ct_reduced (r : RlT) (xs : List Int) (d : Int) (B : Nat) (hn : 2 ≤ r.2.1.length ∧ r.2.1.length ≤ 5) (hL : xs.length ≤ 16) (hc : ∀ i, dl (nth xs i) ≤ B) (hpp : ∀ i, dl (nth r.2.1 i) ≤ 1) (hB : B ≤ 600000) (hd : dl d ≤ 700000) (h0 : d ≠ 0) : Ct Tryz.prog 169 [kPtr eReal r, kRd (eL eZ) xs, kRd eW (wh d)] (kRd eNu (loN (pad r.2.1 xs) d)) := by
 obtain ⟨n, hn1⟩ : ∃ n, r.2.1.length = n + 1 := ⟨r.2.1.length - 1, by omega⟩
 have hn2 : r.2.1.length - 1 = n := by omega
 refine Ct.mk Tryz.func169 rfl Tryz.ntmps169 rfl (fun w J => ?_); refine jx2 ?_; refine jb 5 rfl ?_; refine ja 6 ?_; refine jx5 ?_; refine jc (ct_degree r hn) ?_; refine jx6 ?_; refine TrL.new (ok_callN 15 (fun hp => ct_cloneW _ zo) (.a rfl uu <| .nil)) rfl rfl rfl rfl ?_; refine jx7 ?_; refine tO (ok_lenO rfl uu) rfl rfl ?_; refine jx4 ?_
 refine Tr.for1 (σ := List Int × Nat) [⟨0, true, _, _⟩, ⟨1, true, _, _⟩, ⟨5, true, _, _⟩, ⟨6, true, _, _⟩, ⟨7, true, _, _⟩] [⟨5, _, _⟩, ⟨6, _, _⟩] (fun (ys, m) => [⟨8, true, [], kI ((m : Int) - 1)⟩]) (fun (ys, m) => [⟨15, [], cArr false 160 eZ ys xs.length⟩]) (fun (ys, m) => ys.length = xs.length ∧ m ≤ xs.length ∧ red r.2.1 (ys.take m) = red r.2.1 xs ∧ (∀ j, dl (nth ys j) ≤ B + 2 * (xs.length - m)) ∧ (n ≤ m ∨ m = xs.length)) (fun (ys, m) => ys.length = xs.length ∧ m = min n xs.length ∧ red r.2.1 (ys.take m) = red r.2.1 xs ∧ (∀ j, dl (nth ys j) ≤ B + 2 * (xs.length - m))) (fun (ys, m) => m) ((xs, xs.length)) ⟨rfl, Nat.le_refl _, by rw [List.take_length], fun j => by have := hc j; omega, .inr rfl⟩ (Ent.mk (.i rfl zi <| zk) (zk) rfl) ?_ ?_
 ·rintro ⟨ys, m⟩ ⟨hl, hm, hr, hy, hnm⟩
  refine jn ?_; refine jx8 ?_; refine jq ?_ ?_
  ·intro h4
   refine jx10 ?_
   refine Tr.for1 (σ := Nat) [⟨0, true, _, _⟩, ⟨1, true, _, _⟩, ⟨5, true, _, _⟩, ⟨6, true, _, _⟩, ⟨7, true, _, _⟩, ⟨8, true, _, _⟩, ⟨24, true, _, _⟩] [⟨5, _, _⟩, ⟨6, _, _⟩] (fun k => [⟨25, true, [], kI (k : Int)⟩]) (fun k => [⟨15, [], cArr false 160 eZ (stpK r.2.1 ys n (m - 1) k) xs.length⟩]) (fun k => k ≤ n) (fun k => k = n) (fun k => n - k) (0) zi (Ent.mk (.i rfl zi <| zk) (.a stpK_zero zi <| zk) rfl) ?_ ?_
   ·intro k hR1
    refine jn ?_
    have hix : ((m : Int) - 1 - ((r.2.1.length : Int) - 1) + (k : Int)).toNat = m - 1 - n + k := by omega
    have hiy : ((m : Int) - 1).toNat = m - 1 := by omega
    have hsd := stpK_dl (p := r.2.1) (ys := ys) (n := n) (i := m - 1) (k := k) zo zo hy hpp
    have hsl : (stpK r.2.1 ys n (m - 1) k).length = ys.length := stpK_len
    refine jx6 ?_; refine jq ?_ ?_
    ·intro h7
     refine jx10 ?_; refine Tr.draw 28 mixed (by kernel_rfl) ?_; refine jx13 ?_; refine rO (ok_ldEA rfl uu rfl rfl rfl rfl) rfl rfl ?_; refine jx3 ?_; refine rO (ok_ldEA rfl uu rfl rfl rfl rfl) rfl rfl ?_; refine jx1 ?_; refine rO (ok_nilP rfl uu) rfl rfl ?_; refine jx5 ?_; refine rO (ok_call (fun hp => ct_wtimes _ _ (Nat.le_trans (hsd _) zo) (Nat.le_trans (hpp _) zo)) (.a rfl uu <| .a rfl uu <| .nil)) rfl rfl ?_; refine rO (ok_call (fun hp => ct_wminus _) (.a rfl uu <| .nil)) rfl rfl ?_; refine rO (ok_call (fun hp => ct_wplus _ _ (Nat.le_trans (hsd _) zo) (by rw [dl_neg]; exact Nat.le_trans (dl_mul _ _) (Nat.le_trans (Nat.add_le_add (hsd _) (hpp _)) zo))) (.a rfl uu <| .a rfl uu <| .nil)) rfl rfl ?_
     refine jx10 ?_
     exact End.lp (k + 1) zi zo (Ent.mk (.i rfl zi <| zk) (.a (by rw [hix, hiy, stpK_out zo zo, stpK_out zo zo]; exact stpK_succ zo zo zo) zi <| zk) rfl)
    ·intro h7
     replace h7 := Int.not_lt.1 h7
     refine jx4 ?_
     exact End.cut (k) zo (Ent.mk (.i rfl zi <| zk) (zk) rfl)
   ·rintro k hkn
    refine je ?_; refine jx7 ?_
    exact End.lp ((stpK r.2.1 ys n (m - 1) n, m - 1)) ⟨stpK_len.trans hl, by omega, (red_round hn2 zo zo).trans hr, fun j => by have := stpK_dl (p := r.2.1) (n := n) (i := m - 1) (k := n) zo zo hy hpp j; omega, .inl zo⟩ (by show m - 1 < m; omega) (Ent.mk (.i rfl zi <| zk) (.a (by rw [hkn]) zi <| zk) rfl)
  ·intro h4
   replace h4 := Int.not_le.1 h4
   refine jx4 ?_
   exact End.cut ((ys, m)) ⟨hl, by omega, hr, hy⟩ (Ent.mk (.i rfl zi <| zk) (zk) rfl)
 ·rintro ⟨ys, m⟩ ⟨hl, hm, hr, hy⟩
  refine je ?_
  obtain ⟨X, hX⟩ : ∃ X, X = (if (ys.length : Int) < (r.2.1.length : Int) - 1 then (ys.length : Int) else (r.2.1.length : Int) - 1).toNat := ⟨_, rfl⟩
  have hXm : X = m := by split at hX <;> omega
  have hdr : ∀ i, i < 4 → nth (red r.2.1 xs) i = (if i < m then nth ys i else 0) ∧ dl (nth (red r.2.1 xs) i) ≤ B + 2 * (xs.length - m) := fun i _ => dl_red hn2 zo zo hr hy i
  have hnt : ∀ i, i < m → nth (ys.take X) i = nth ys i := fun i h => nth_take' zo
  have hpd : ∀ i, i < 4 → (if i < m then nth (ys.take X) i else 0) = nth (red r.2.1 xs) i := fun i h => by rw [(hdr i h).1]; split; (rename_i h2; exact hnt i h2); rfl
  have hdp : ∀ i, i < 4 → dl (if i < m then nth (ys.take X) i else 0) ≤ 700000 := fun i h => by rw [hpd i h]; have := (hdr i h).2; omega
  refine jx3 ?_; refine ja 10 ?_; refine jx3 ?_; refine Tr.conC 10 (ct' := cBlk (wC (fun _ => 0) 0 4 ++ [kB (decide ((0 : Int) < 0)), kRd (eL eI) (digN ((0 : Int)).natAbs)])) (wC_zero (r' := [kB (decide ((0 : Int) < 0)), kRd (eL eI) (digN ((0 : Int)).natAbs)]) fun _ _ h => by obtain ⟨u, v, rfl, h1, h2⟩ := allK_two h; cases h1; cases h2; exact ⟨rfl, ⟨_, rd_nil (c := 0), rfl⟩, trivial⟩) rfl ?_; refine Tr.frz 15 [1] ⟨rfl, trivial⟩ (by simp only [lenMax]; omega) rfl ?_; refine jn ?_; refine Tr.draw 9 mixed (by kernel_rfl) ?_; refine jx2 ?_; refine rO (ok_slArrO rfl uu rfl uu (fun _ => zo)) rfl rfl ?_
  refine jx4 ?_; refine rO (ok_min rfl uu rfl uu) rfl rfl ?_; refine rO (ok_slJh rfl uu rfl uu (fun _ => zo)) rfl rfl ?_; refine jx1 ?_; refine TrL.cpW (m) rfl rfl (by rw [List.length_take]; split <;> omega) zo rfl rfl ?_; refine jx16 ?_; refine Tr.cnd rfl ?_ ?_
  ·intro h14
   try simp only [decide_eq_true_eq] at h14
   refine jx3 ?_; refine jc (ct_wminus d) ?_; refine jx9 ?_
   refine Tr.for1 (σ := Nat) [⟨6, true, _, _⟩, ⟨10, true, _, _⟩] [⟨6, _, _⟩] (fun k => [⟨75, true, [], kI (k : Int)⟩]) (fun k => [⟨10, [], cBlk (wC (fun i => if i < k then -(if i < m then nth (ys.take X) i else 0) else (if i < m then nth (ys.take X) i else 0)) 0 4 ++ [kB (decide (-d < 0)), kRd (eL eI) (digN (-d).natAbs)])⟩]) (fun k => k ≤ 4) (fun k => k = 4) (fun k => 4 - k) (0) zi (Ent.mk (.i rfl zi <| zk) (.conv (cW (fun j _ => by subst hX; exact (if_neg (Nat.not_lt_zero _)).symm) rfl) rfl <| zk) rfl) ?_ ?_
   ·intro k hR2
    refine jn ?_; refine jx6 ?_; refine jq ?_ ?_
    ·intro h17
     refine jx14 ?_; refine tO (ok_idxArrO rfl uu rfl uu (fun _ => zo)) rfl rfl ?_; refine tO (ok_ldW (k) (fun _ => zo) (fun _ => zo) rfl uu) rfl rfl ?_; refine tO (ok_call (fun hp => ct_wminus _) (.a rfl uu <| .nil)) rfl rfl ?_; refine jx1 ?_; refine tO (ok_idxArrO rfl uu rfl uu (fun _ => zo)) rfl rfl ?_; refine TrL.stW (k) zo zo rfl rfl rfl ?_; refine jx7 ?_
     exact End.lp (k + 1) zi zo (Ent.mk (.i rfl zi <| zk) (.conv (cW (fun j _ => upd_map (F := fun i => -(if i < m then nth (ys.take X) i else 0)) (C := fun i => (if i < m then nth (ys.take X) i else 0)) (by rw [if_neg (Nat.lt_irrefl k)])) rfl) rfl <| zk) rfl)
    ·intro h17
     replace h17 := Int.not_lt.1 h17
     refine jx4 ?_
     exact End.cut (k) zo (Ent.mk (.i rfl zi <| zk) (zk) rfl)
   ·rintro _ rfl
    refine je ?_; refine jx4 ?_
    refine tO (ok_call (fun hp => ct_nlowest _ _ (dl_tab fun i hi => by first | (subst hX; exact hdp i hi) | (rw [if_pos hi, dl_neg]; exact hdp i hi)) (by first | exact hd | (rw [dl_neg]; exact hd)) zo) (.se rfl uu rfl rfl <| .nil)) rfl rfl ?_
    refine jx4 ?_; exact Rts.resC1 (fn := Tryz.f169) rfl rfl (aggRd rfl (by rw [eta4 (by rw [low_len, tab_len]), ← low_neg h0]; refine congrArg (fun l => loN l (-d)) ?_; simp only [pad, tab, List.map_map]; exact List.map_congr_left fun i hi => by have hi := List.mem_range.1 hi; simp only [Function.comp]; rw [if_pos hi, hpd i hi]))
  ·intro h14
   try simp only [decide_eq_false_iff_not, Int.not_lt] at h14
   refine jx5 ?_
   refine tO (ok_call (fun hp => ct_nlowest _ _ (dl_tab fun i hi => by first | (subst hX; exact hdp i hi) | (rw [if_pos hi, dl_neg]; exact hdp i hi)) (by first | exact hd | (rw [dl_neg]; exact hd)) zo) (.se rfl uu rfl rfl <| .nil)) rfl rfl ?_
   refine jx4 ?_; exact Rts.resC1 (fn := Tryz.f169) rfl rfl (aggRd rfl (by rw [eta4 (by rw [low_len, tab_len])]; subst hX; exact congrArg (fun l => loN l d) (tab_congr hpd)))

theorem ct_nminus (c : List Int) (d : Int) : Ct Tryz.prog 141 [kRd eNu (c, d)] (kRd eNu (c.map fun z => -z, d)) := by
 refine Ct.mk Tryz.func141 rfl Tryz.ntmps141 rfl (fun w J => ?_); refine Tr.fact (s := 0) rfl (fun _ _ h => eNu_len h) (fun hl => ?_)
 have hl : c.length = 4 := hl
 refine jx2 ?_; refine jb 1 rfl ?_; refine ja 2 ?_; refine jx10 ?_
 refine Tr.for1 (σ := Nat) [⟨1, true, _, _⟩, ⟨2, true, _, _⟩, ⟨6, true, _, _⟩] [⟨2, _, _⟩] (fun k => [⟨7, true, [], kI (k : Int)⟩]) (fun k => [⟨1, [], cBlk (wC (fun i => if i < k then -nth c i else nth c i) 0 4 ++ [kB (decide (d < 0)), kRd (eL eI) (digN (d).natAbs)])⟩]) (fun k => k ≤ 4) (fun k => k = 4) (fun k => 4 - k) (0) zi (Ent.mk (.i rfl zi <| zk) (.conv (cW (fun j _ => (if_neg zo).symm) rfl) rfl <| zk) rfl) ?_ ?_
 ·intro k hR0
  refine jn ?_; refine jx6 ?_; refine jq ?_ ?_
  ·intro h2
   refine jx7 ?_; refine tO (ok_idxW rfl uu rfl uu (fun _ => zo)) rfl rfl ?_; refine ja 4 ?_; refine jx7 ?_; refine jc (ct_wminus (nth c k)) ?_; refine jx1 ?_; refine tO (ok_idxArrO rfl uu rfl uu (fun _ => zo)) rfl rfl ?_; refine TrL.stW (k) zo zo rfl rfl rfl ?_; refine jx7 ?_
   exact End.lp (k + 1) zi zo (Ent.mk (.i rfl zi <| zk) (.conv (cW (fun j _ => upd_map (F := fun i => -nth c i) (C := fun i => nth c i) rfl) rfl) rfl <| zk) rfl)
  ·intro h2
   replace h2 := Int.not_lt.1 h2
   refine jx4 ?_
   exact End.cut (k) zo (Ent.mk (.i rfl zi <| zk) (zk) rfl)
 ·rintro _ rfl
  refine je ?_; refine jx8 ?_; exact Rts.resC1 (fn := Tryz.f141) rfl rfl (aggRd rfl (by rw [neg_tab hl]; exact Prod.ext (tab_congr fun i hi => if_pos hi) rfl))

theorem ct_nplus (x y : List Int × Int) (hx : ∀ i, dl (nth x.1 i) ≤ 300000) (hy : ∀ i, dl (nth y.1 i) ≤ 300000) (hdx : dl x.2 ≤ 300000) (hdy : dl y.2 ≤ 300000) (hpx : 0 < x.2) (hpy : 0 < y.2) : Ct Tryz.prog 140 [kRd eNu x, kRd eNu y] (kRd eNu (adV x y)) := by
 refine Ct.mk Tryz.func140 rfl Tryz.ntmps140 rfl (fun w J => ?_); refine jx2 ?_; refine jb 2 rfl ?_; refine jb 3 rfl ?_; refine ja 4 ?_; refine jx8 ?_; refine jc (ct_wtimes x.2 y.2 zo zo) ?_; refine tO (ok_build (fun hp => .cons rfl rfl rfl <| .nil)) rfl rfl ?_; refine ja 5 ?_; refine jx9 ?_
 refine Tr.for1 (σ := Nat) [⟨2, true, _, _⟩, ⟨3, true, _, _⟩, ⟨4, true, _, _⟩, ⟨5, true, _, _⟩] [⟨2, _, _⟩, ⟨3, _, _⟩, ⟨4, _, _⟩] (fun k => [⟨13, true, [], kI (k : Int)⟩]) (fun k => [⟨5, [], cBlk (wC (fun i => if i < k then nth x.1 i * y.2 + nth y.1 i * x.2 else 0) 0 4 ++ [kB (decide (x.2 * y.2 < 0)), kRd (eL eI) (digN (x.2 * y.2).natAbs)])⟩]) (fun k => k ≤ 4) (fun k => k = 4) (fun k => 4 - k) (0) zi (Ent.mk (.i rfl zi <| zk) (.conv (wC_zero (fun _ _ h => h)) rfl <| zk) rfl) ?_ ?_
 ·intro k hR0
  refine jn ?_
  have h1 := hx k
  have h2 := hy k
  have h3 := dl_mul (nth x.1 k) y.2
  have h4 := dl_mul (nth y.1 k) x.2
  refine jx6 ?_; refine jq ?_ ?_
  ·intro h3
   refine jx10 ?_; refine Tr.draw 17 mixed (by kernel_rfl) ?_; refine jx3 ?_; refine rO (ok_idxArrO rfl uu rfl uu (fun _ => zo)) rfl rfl ?_; refine rO (ok_ldW (k) (fun _ => zo) (fun _ => zo) rfl uu) rfl rfl ?_; refine jx2 ?_; refine jd (ct_wtimes (nth x.1 k) y.2 zo zo) ?_; refine jx2 ?_; refine rO (ok_idxArrO rfl uu rfl uu (fun _ => zo)) rfl rfl ?_; refine rO (ok_ldW (k) (fun _ => zo) (fun _ => zo) rfl uu) rfl rfl ?_; refine jx2 ?_; refine jd (ct_wtimes (nth y.1 k) x.2 zo zo) ?_; refine jd (ct_wplus (nth x.1 k * y.2) (nth y.1 k * x.2) zo zo) ?_
   refine jx2 ?_; refine tO (ok_idxArrO rfl uu rfl uu (fun _ => zo)) rfl rfl ?_; refine TrL.stW (k) zo zo rfl rfl rfl ?_; refine jx7 ?_
   exact End.lp (k + 1) zi zo (Ent.mk (.i rfl zi <| zk) (.conv (cW (fun j _ => by simp only [upd]; by_cases e : j = k; (rw [if_pos e, if_pos zo, e]); (rw [if_neg e]; by_cases e2 : j < k; (rw [if_pos e2, if_pos zo]); (rw [if_neg e2, if_neg zo]))) rfl) rfl <| zk) rfl)
  ·intro h3
   replace h3 := Int.not_lt.1 h3
   refine jx4 ?_
   exact End.cut (k) zo (Ent.mk (.i rfl zi <| zk) (zk) rfl)
 ·rintro _ rfl
  refine je ?_; refine jx4 ?_; refine tO (ok_call (fun hp => ct_nlowest _ _ (dl_tab fun i hi => by rw [if_pos hi]; exact Nat.le_trans (dl_adV hx hy hdx hdy i) zo) (by have := dl_mul x.2 y.2; omega) (Int.mul_pos hpx hpy)) (.se rfl uu rfl rfl <| .nil)) rfl rfl ?_; refine jx4 ?_; exact Rts.resC1 (fn := Tryz.f140) rfl rfl (aggRd rfl (by rw [eta4 (by rw [low_len, tab_len])]; unfold adV; exact congrArg (fun l => loN l (x.2 * y.2)) (tab_congr fun i hi => if_pos hi)))

end Go.Fl

/- Numbers of a field: how they are read and handed back; sizes. No program in sight. -/
namespace Go.Fl
open Go
def denN (d : List Int) : Int := if val d = 0 then 1 else val d
theorem denN_ne {d : List Int} : denN d ≠ 0 := by unfold denN; split <;> omega
def takeN (p : List Int) (x : List (List Int) × List Int) : List Int × Int := loN (pad p (x.1.map val)) (denN x.2)
def giveN (v : List Int × Int) : List (List Int) × List Int := ((trimL v.1).map lstZ, lstZ v.2)
def PolOk (p : List Int) : Prop := (2 ≤ p.length ∧ p.length ≤ 5) ∧ ∀ i, dl (nth p i) ≤ 1
structure NumOk (k : Nat) (x : List (List Int) × List Int) : Prop where
 len : x.1.length ≤ 6
 c : ∀ i, InI (nth x.1 i) ∧ (nth x.1 i).length ≤ k
 d : InI x.2 ∧ x.2.length ≤ k
structure NBd (k : Nat) (v : List Int × Int) : Prop where
 c : ∀ i, dl (nth v.1 i) ≤ k
 d : dl v.2 ≤ k
 pos : 0 < v.2
 len : v.1.length = 4
theorem nth_nil {α : Type} [Inhabited α] {i : Nat} : nth ([] : List α) i = default := rfl
theorem nth_out {α : Type} [Inhabited α] {xs : List α} {i : Nat} (h : xs.length ≤ i) : nth xs i = default := by simp [nth, List.getD, List.getElem?_eq_none h]
theorem val_nil : val [] = 0 := rfl
theorem nth_mapv {xs : List (List Int)} {i : Nat} : nth (xs.map val) i = val (nth xs i) := by
 by_cases h : i < xs.length
 ·simp [nth, h]
 ·rw [nth_out (by simpa using h), nth_out zo]; rfl
theorem tab_mapv {xs : List (List Int)} : (tab xs.length fun i => val (nth xs i)) = xs.map val := by
 have h : (xs.map val).length = xs.length := List.length_map ..
 conv => rhs; rw [tab_nth h]
 exact tab_congr fun i _ => nth_mapv.symm
theorem dl_den {d : List Int} {k : Nat} (h : InI d) (hl : d.length ≤ k) : dl (denN d) ≤ k + 3 := by
 unfold denN
 split
 ·have := dl_int (n := 1) zo; omega
 ·have := dl_val h; omega
theorem dl_redF {p : List Int} {n : Nat} (hp : ∀ i, dl (nth p i) ≤ 1) : ∀ {f B : Nat} {xs : List Int}, (∀ i, dl (nth xs i) ≤ B) → ∀ i, dl (nth (redF p n f xs) i) ≤ B + 2 * f
 | 0, B, xs, h, i => by
  rw [redF, nth_app0]
  split
  ·have := h i; omega
  ·rw [dl_zero.2 rfl]; omega
 | f + 1, B, xs, h, i => by
  rw [redF]
  split
  ·rw [nth_app0]
   split
   ·have := h i; omega
   ·rw [dl_zero.2 rfl]; omega
  ·have h1 : ∀ j, dl (nth (red1 p n xs) j) ≤ B + 2 := fun j => by
    unfold red1
    refine dl_tab (fun q _ => ?_) j
    split
    ·rw [Int.sub_eq_add_neg]
     have := dl_step (h q) (h (xs.length - 1)) (hp (q - (xs.length - 1 - n)))
     omega
    ·rw [Int.sub_zero]; have := h q; omega
   have := dl_redF (n := n) hp h1 i (f := f)
   omega
theorem dl_pad {p xs : List Int} {B : Nat} (hp : ∀ i, dl (nth p i) ≤ 1) (h : ∀ i, dl (nth xs i) ≤ B) (i : Nat) : dl (nth (pad p xs) i) ≤ B + 2 * xs.length := by
 unfold pad
 refine dl_tab (fun j _ => ?_) i
 unfold red
 have := dl_redF hp h j (n := p.length - 1) (f := xs.length - (p.length - 1))
 omega
theorem natAbs_ediv_le {a g : Int} (hg : g ∣ a) : (a / g).natAbs ≤ a.natAbs := by
 obtain ⟨q, rfl⟩ := hg
 by_cases h : g = 0
 ·subst h; simp
 ·rw [Int.mul_ediv_cancel_left _ h, Int.natAbs_mul]
  exact Nat.le_mul_of_pos_left _ zo
theorem dl_divs {a g : Int} (hg : g ∣ a) : dl (a / g) ≤ dl a := digN_len_le (natAbs_ediv_le hg)
theorem nth_mem' {xs : List Int} {i : Nat} (h : i < xs.length) : nth xs i ∈ xs := by simp [nth, h]
theorem low_NBd {cs : List Int} {d : Int} {k : Nat} (hc : ∀ i, dl (nth cs i) ≤ k) (hd : dl d ≤ k) (h0 : d ≠ 0) (hl : cs.length = 4) : NBd k (loN cs d) := by
 refine ⟨fun i => ?_, ?_, low_pos h0, by rw [low_len, hl]⟩
 ·by_cases h : i < cs.length
  ·have e : nth (loN cs d).1 i = nth cs i / sgG d cs := by simp [loN, nth, h]
   rw [e]
   exact Nat.le_trans (dl_divs (sgG_dvd (.inr (nth_mem' h)))) (hc i)
  ·rw [nth_out (by rw [low_len]; omega)]
   show dl 0 ≤ k
   rw [dl_zero.2 rfl]; omega
 ·exact Nat.le_trans (dl_divs (sgG_dvd (.inl rfl))) hd
theorem take_NBd {p : List Int} {x : List (List Int) × List Int} {k : Nat} (hp : PolOk p) (hx : NumOk k x) : NBd (k + 15) (takeN p x) := by
 refine low_NBd (fun i => ?_) ?_ denN_ne pad_len
 ·have := dl_pad (xs := x.1.map val) (B := k + 3) hp.2 (fun j => by rw [nth_mapv]; have := dl_val (hx.c j).1; have := (hx.c j).2; omega) i
  rw [List.length_map] at this
  have := hx.len
  omega
 ·have := dl_den hx.d.1 hx.d.2; omega
theorem add_NBd {x y : List Int × Int} {j k : Nat} (hx : NBd j x) (hy : NBd k y) : NBd (j + k + 1) (adV x y) := by
 refine low_NBd (dl_tab fun i _ => ?_) ?_ ?_ tab_len
 ·have h1 := dl_mul (nth x.1 i) y.2
  have h2 := dl_mul (nth y.1 i) x.2
  have h3 := dl_add (nth x.1 i * y.2) (nth y.1 i * x.2)
  have := hx.c i; have := hy.c i; have := hx.d; have := hy.d
  omega
 ·have := dl_mul x.2 y.2; have := hx.d; have := hy.d; omega
 ·have := Int.mul_pos hx.pos hy.pos; omega
theorem neg_NBd {x : List Int × Int} {k : Nat} (hx : NBd k x) : NBd k (x.1.map fun z => -z, x.2) := by
 refine ⟨fun i => ?_, hx.d, hx.pos, by simp [hx.len]⟩
 rw [neg_tab hx.len]
 exact dl_tab (fun j _ => by rw [dl_neg]; exact hx.c j) i
def ratB (c : List Int) : Bool := !(((tab 4 (nth c)).take 4).drop 1).any fun z => decide (cmpZ z 0 ≠ 0)
theorem ratB_of {c : List Int} (h : ∀ i, 1 ≤ i → i < 4 → nth c i = 0) : ratB c = true := by
 have e : tab 4 (nth c) = [nth c 0, nth c 1, nth c 2, nth c 3] := rfl
 unfold ratB
 rw [e, h 1 zo zo, h 2 zo zo, h 3 zo zo]
 rfl
theorem ratB_iff {c : List Int} : ratB c = true ↔ ∀ i, 1 ≤ i → i < 4 → nth c i = 0 := by
 refine ⟨fun h => ?_, ratB_of⟩
 have e : tab 4 (nth c) = [nth c 0, nth c 1, nth c 2, nth c 3] := rfl
 unfold ratB at h
 rw [e] at h
 simp only [List.take_succ_cons, List.take_zero, List.drop_succ_cons, List.drop_zero, List.any_cons, List.any_nil, Bool.or_false, Bool.not_eq_true', Bool.or_eq_false_iff, decide_eq_false_iff_not, Classical.not_not, ne_eq] at h
 intro i h1 h2
 obtain ⟨q1, q2, q3⟩ := h
 rcases (show i = 1 ∨ i = 2 ∨ i = 3 by omega) with rfl | rfl | rfl
 ·exact cmpZ_z.1 q1
 ·exact cmpZ_z.1 q2
 ·exact cmpZ_z.1 q3
theorem nth_low {cs : List Int} {d : Int} {i : Nat} (h : i < cs.length) : nth (loN cs d).1 i = nth cs i / sgG d cs := by simp [loN, nth, h]
theorem ratB_add {x y : List Int × Int} (hx : ratB x.1 = true) (hy : ratB y.1 = true) : ratB (adV x y).1 = true := by
 refine ratB_of fun i h1 h2 => ?_
 unfold adV
 rw [nth_low (by rw [tab_len]; exact h2), nth_tab h2, ratB_iff.1 hx i h1 h2, ratB_iff.1 hy i h1 h2]
 simp
theorem ratB_neg {c : List Int} (h : ratB c = true) : ratB (c.map fun z => -z) = true := by
 refine ratB_of fun i h1 h2 => ?_
 by_cases hl : i < c.length
 ·simp only [nth, List.getD, List.getElem?_map, List.getElem?_eq_getElem hl, Option.map_some, Option.getD_some]
  have := ratB_iff.1 h i h1 h2
  simp only [nth, List.getD, List.getElem?_eq_getElem hl, Option.getD_some] at this
  omega
 ·rw [nth_out (by rw [List.length_map]; omega)]; rfl
theorem giveN_eq {c : List Int} {d : Int} {n : Nat} (h : trimL c = c.take n) : (tab n (fun i => lstZ (nth c i)), lstZ d) = giveN (c, d) ∨ c.length < n := by
 by_cases hn : n ≤ c.length
 ·left
  unfold giveN
  rw [h]
  refine Prod.ext ?_ rfl
  have hl : (c.take n).length = n := by rw [List.length_take]; omega
  show _ = (c.take n).map lstZ
  conv => rhs; rw [tab_nth hl]
  simp only [tab, List.map_map]
  refine List.map_congr_left fun i hi => ?_
  have hi : i < n := List.mem_range.1 hi
  simp [Function.comp, nth_take' hi]
 ·right; omega
theorem dl_four {n : Int} {k : Nat} (h : dl n ≤ 3) (i : Nat) : dl (nth [n, 0, 0, 0] i) ≤ k + 3 := by
 match i with
 | 0 => show dl n ≤ _; omega
 | 1 => show dl 0 ≤ _; rw [dl_zero.2 rfl]; omega
 | 2 => show dl 0 ≤ _; rw [dl_zero.2 rfl]; omega
 | 3 => show dl 0 ≤ _; rw [dl_zero.2 rfl]; omega
 | i + 4 => rw [nth_out (by simp)]; show dl 0 ≤ _; rw [dl_zero.2 rfl]; omega
theorem ratB_pad {p xs : List Int} {d : Int} (hp : p.length = 2) : ratB (loN (pad p xs) d).1 = true := by
 refine ratB_of fun i h1 h2 => ?_
 have e : nth (loN (pad p xs) d).1 i = nth (pad p xs) i / sgG d (pad p xs) := by simp [loN, nth, pad_len, h2]
 rw [e, nth_pad h2, nth_out (by rw [red_len, hp]; omega)]
 simp
end Go.Fl

/- Contracts: numbers of a field (reading, handing back; sums, differences; signs of fractions). -/
namespace Go.Fl
open Go Go.Proofs
open TrL renaming op → tO
open RunD renaming op → rO
set_option maxRecDepth 100000

theorem ct_IndexFuncW (xs : List Int) (f : FuncId) (q : Int → Bool) [TyFn Tryz.prog f] (hf : ∀ z, Ct Tryz.prog f [kRd eW (wh z)] (kB (q z))) : Ct Tryz.prog 216 [kRd (eL eZ) xs, kDet (.func (.func f) #[] #[])] (kI (idxF q xs)) := by
 refine Ct.mk Tryz.func216 rfl Tryz.ntmps216 rfl (fun w J => ?_); refine Tr.fact (s := 0) rfl (fun _ _ h => lenB h) (fun hb => ?_); refine jx13 ?_
 refine Tr.for1 (σ := Nat) [⟨0, true, _, _⟩, ⟨1, true, _, _⟩, ⟨7, true, _, _⟩] [] (fun k => [⟨8, true, [], kI (k : Int)⟩]) (fun k => []) (fun k => k ≤ xs.length ∧ ∀ i, i < k → q (nth xs i) = false) (fun k => ∀ i, i < xs.length → q (nth xs i) = false) (fun k => xs.length - k) (0) ⟨by omega, fun i h => absurd h zo⟩ (Ent.mk (.i rfl zi <| zk) (.nil) rfl) ?_ ?_
 ·rintro k ⟨hk, hR⟩
  refine jn ?_; refine jx6 ?_; refine jq ?_ ?_
  ·intro h2
   refine jx17 ?_; refine tO (ok_callV rfl uu (fun hp => hf _) (.a rfl uu <| .nil)) rfl rfl ?_; refine jx2 ?_; refine Tr.cnd rfl ?_ ?_
   ·intro h4
    refine jx13 ?_; exact Rts.res1 (fn := Tryz.f216) rfl (.i rfl (idxF_at zo hR h4) <| .nil)
   ·intro h4
    refine jx7 ?_
    exact End.lp (k + 1) ⟨by omega, fun i hi => by (rcases Nat.lt_succ_iff_lt_or_eq.1 hi with h | h; exact hR i h; subst h; exact h4)⟩ zo (Ent.mk (.i rfl zi <| zk) (.nil) rfl)
  ·intro h2
   replace h2 := Int.not_lt.1 h2
   refine jx4 ?_
   exact End.cut (k) (fun i hi => hR i zo) (Ent.mk (.i rfl zi <| zk) (.nil) rfl)
 ·intro k hE
  refine je ?_; refine jx7 ?_; exact Rts.res1 (fn := Tryz.f216) rfl (.i rfl (idxF_none hE) <| .nil)

theorem ct_ContainsFuncW (xs : List Int) (f : FuncId) (q : Int → Bool) [TyFn Tryz.prog f] (hf : ∀ z, Ct Tryz.prog f [kRd eW (wh z)] (kB (q z))) : Ct Tryz.prog 199 [kRd (eL eZ) xs, kDet (.func (.func f) #[] #[])] (kB (xs.any q)) := by
 refine Ct.mk Tryz.func199 rfl Tryz.ntmps199 rfl (fun w J => ?_); refine jx9 ?_; refine tO (ok_call (fun hp => ct_IndexFuncW _ f q hf) (.a rfl uu <| .a rfl uu <| .nil)) rfl rfl ?_; refine jx5 ?_; exact Rts.res1 (fn := Tryz.f199) rfl (.b rfl idxF_nonneg <| .nil)

theorem ct_rational1 (z : Int) : Ct Tryz.prog 200 [kRd eW (wh z)] (kB (decide (cmpZ z 0 ≠ 0))) := by
 refine Ct.mk Tryz.func200 rfl Tryz.ntmps200 rfl (fun w J => ?_); refine jx2 ?_; refine jb 1 rfl ?_; refine jx6 ?_; refine jc (ct_wsign z) ?_; refine jx5 ?_
 exact Rts.res1 (fn := Tryz.f200) rfl (.b rfl zi <| .nil)

theorem ct_rational (c : List Int) (d : Int) : Ct Tryz.prog 180 [kRd eNu (c, d)] (kB (ratB c)) := by
 refine Ct.mk Tryz.func180 rfl Tryz.ntmps180 rfl (fun w J => ?_); refine jx2 ?_; refine jb 1 rfl ?_; refine jx4 ?_; refine Tr.frzB 1 [1] eNu ⟨rfl, trivial⟩ rfl ?_; refine jn ?_; refine jx2 ?_; refine tO (ok_slArrPl rfl uu rfl uu rfl rfl (fun _ => zo)) rfl rfl ?_; refine tO (ok_call (fun hp => ct_ContainsFuncW _ 200 (fun z => decide (cmpZ z 0 ≠ 0)) (fun z => ct_rational1 z)) (.a rfl uu <| .a rfl uu <| .nil)) rfl rfl ?_; refine jx5 ?_; exact Rts.res1 (fn := Tryz.f180) rfl (.b rfl (by rfl) <| .nil)

theorem ct_signQ (r : RlT) (c : List Int) (d : Int) (hq : ratB c = true) : Ct Tryz.prog 139 [kPtr eReal r, kRd eNu (c, d)] (kI (cmpZ (nth c 0) 0)) := by
 refine Ct.mk Tryz.func139 rfl Tryz.ntmps139 rfl (fun w J => ?_); refine Tr.fact (s := 1) rfl (fun _ _ h => eNu_len h) (fun hl => ?_)
 have hl : c.length = 4 := hl
 refine jx2 ?_; refine jb 3 rfl ?_; refine jx7 ?_; refine tO (ok_call (fun hp => ct_rational c d) (.se rfl uu rfl (eta4 (v := (c, d)) hl) <| .nil)) rfl rfl ?_; refine jx2 ?_; refine Tr.cnd rfl ?_ ?_
 ·intro h1
  refine jx3 ?_; refine tO (ok_idxArrO rfl uu rfl uu (fun _ => by decide)) rfl rfl ?_; refine tO (ok_ldW (0) (fun _ => zo) (fun _ => zo) rfl uu) rfl rfl ?_; refine jc (ct_wsign (nth c 0)) ?_; refine jx5 ?_; exact Rts.res1 (fn := Tryz.f139) rfl (.i rfl (by rfl) <| .nil)
 ·intro h1
  rw [hq] at h1; cases h1

theorem ct_take (r : RlT) (x : NumT) (k : Nat) (hpo : PolOk r.2.1) (hx : NumOk k x) (hk : k ≤ 500000) : Ct Tryz.prog 119 [kPtr eReal r, kRd eNum x] (kRd eNu (takeN r.2.1 x)) := by
 have hdx := dl_val hx.d.1
 have hld := hx.d.2
 have hlx := hx.len
 have hdd := dl_den hx.d.1 hx.d.2
 refine Ct.mk Tryz.func119 rfl Tryz.ntmps119 rfl (fun w J => ?_); refine jx2 ?_; refine jb 3 rfl ?_; refine ja 4 ?_; refine jx16 ?_; refine Tr.grow (s := 5) rfl rfl 55 rfl 160 eZ rfl ?_
 refine Tr.for1 (σ := Nat) [⟨0, true, _, _⟩, ⟨3, true, _, _⟩, ⟨4, true, _, _⟩, ⟨10, true, _, _⟩, ⟨11, true, _, _⟩] [⟨3, _, _⟩, ⟨4, _, _⟩] (fun k2 => [⟨5, true, [55], kOsl 55 k2⟩, ⟨12, true, [], kI (k2 : Int)⟩]) (fun k2 => [⟨55, [], cArr true 160 eZ (tab k2 fun i => val (nth x.1 i)) k2⟩]) (fun k2 => k2 ≤ x.1.length) (fun k2 => k2 = x.1.length) (fun k2 => x.1.length - k2) (0) zi (Ent.mk (.o rfl zi rfl <| .i rfl zi <| zk) (.a (by rfl) zi <| zk) rfl) ?_ ?_
 ·intro k2 hR0
  refine jn ?_
  have hck := hx.c k2
  refine jx6 ?_; refine jq ?_ ?_
  ·intro h3
   refine jx14 ?_; refine tO (ok_call (fun hp => ct_fread _ hck.1 zo) (.a rfl uu <| .nil)) rfl rfl ?_; refine TrL.new (ok_bsl eZ 19 (fun hp => .cons rfl <| .nil) rfl rfl rfl rfl) rfl rfl rfl rfl ?_; refine jx1 ?_; refine jl ?_; refine jx8 ?_
   exact End.lp (k2 + 1) zi zo (Ent.mk (.o rfl zi rfl <| .i rfl zi <| zk) (.a tab_succ.symm zi <| zk) rfl)
  ·intro h3
   replace h3 := Int.not_lt.1 h3
   refine jx4 ?_
   exact End.cut (k2) zo (Ent.mk (.o rfl zi rfl <| .i rfl zi <| zk) (zk) rfl)
 ·rintro _ rfl
  refine je ?_
  have hcm := tab_mapv (xs := x.1)
  refine jx5 ?_; refine tO (ok_call (fun hp => ct_fread _ hx.d.1 zo) (.a rfl uu <| .nil)) rfl rfl ?_; refine ja 8 ?_; refine jx7 ?_; refine jc (ct_wsign (val x.2)) ?_; refine jx3 ?_; refine jq ?_ ?_
  ·intro h8
   have hv0 := cmpZ_z.1 h8
   refine jx1 ?_; refine jc (ct_fsmall 1 zo) ?_; refine jx8 ?_; refine TrL.frz 55 [5, 30] ⟨rfl, rfl, trivial⟩ (by simp only [lenMax]; omega) rfl ?_; refine jl ?_
   refine tO (ok_call (fun hp => ct_reduced r _ (denN x.2) (k + 3) hpo.1 (by rw [tab_len]; omega) (dl_tab fun i _ => by have := dl_val (hx.c i).1; have := (hx.c i).2; omega) hpo.2 zo zo denN_ne) (.a rfl uu <| .a rfl uu <| .se rfl uu rfl (by first | (rw [denN, if_pos hv0]; rfl) | (rw [denN, if_neg hv0]; rfl)) <| .nil)) rfl rfl ?_
   refine jx4 ?_; exact Rts.resC1 (fn := Tryz.f119) rfl rfl (aggRd rfl (by rw [eta4 (by rw [low_len, pad_len]), hcm]; rfl))
  ·intro h8
   have hv0 : val x.2 ≠ 0 := fun e => h8 (cmpZ_z.2 e)
   refine jx7 ?_; refine TrL.frz 55 [5, 30] ⟨rfl, rfl, trivial⟩ (by simp only [lenMax]; omega) rfl ?_; refine jl ?_
   refine tO (ok_call (fun hp => ct_reduced r _ (denN x.2) (k + 3) hpo.1 (by rw [tab_len]; omega) (dl_tab fun i _ => by have := dl_val (hx.c i).1; have := (hx.c i).2; omega) hpo.2 zo zo denN_ne) (.a rfl uu <| .a rfl uu <| .se rfl uu rfl (by first | (rw [denN, if_pos hv0]; rfl) | (rw [denN, if_neg hv0]; rfl)) <| .nil)) rfl rfl ?_
   refine jx4 ?_; exact Rts.resC1 (fn := Tryz.f119) rfl rfl (aggRd rfl (by rw [eta4 (by rw [low_len, pad_len]), hcm]; rfl))

end Go.Fl

/- Contracts: numbers of a field as the package offers them. -/
namespace Go.Fl
open Go Go.Proofs
open TrL renaming op → tO
open RunD renaming op → rO
set_option maxRecDepth 100000

theorem ct_ngive (c : List Int) (d : Int) (hc : ∀ i, dl (nth c i) ≤ 900000) (hd : dl d ≤ 900000) : Ct Tryz.prog 120 [kRd eNu (c, d)] (kRd eNum (giveN (c, d))) := by
 refine Ct.mk Tryz.func120 rfl Tryz.ntmps120 rfl (fun w J => ?_); refine Tr.fact (s := 0) rfl (fun _ _ h => eNu_len h) (fun hl => ?_)
 have hl : c.length = 4 := hl
 refine jx2 ?_; refine jb 1 rfl ?_; refine ja 2 ?_; refine jx4 ?_; refine ja 3 ?_; refine jx7 ?_
 refine Tr.for (σ := Nat) [⟨1, true, _, _⟩, ⟨2, true, _, _⟩, ⟨3, true, _, _⟩] [⟨1, _, _⟩, ⟨2, _, _⟩, ⟨3, _, _⟩] (fun n => [⟨4, true, [], kI (n : Int)⟩]) (fun n => []) (fun n => n ≤ 4 ∧ ∀ i, n ≤ i → i < c.length → nth c i = 0) (fun n => n ≤ 4 ∧ trimL c = c.take n) (fun n => n) (4) ⟨by omega, fun i h1 h2 => absurd h1 zo⟩ (Ent.mk (.i rfl zi <| zk) (zk) rfl) ?_ ?_
 ·rintro n ⟨hn, hz⟩
  refine jn ?_; refine jx7 ?_; refine TrL.gd rfl rfl rfl (ok_sub rfl id rfl uu (fun hp => by simp at hp; omega)) rfl rfl ?_; refine jx1 ?_; refine TrL.gd rfl rfl rfl (ok_idxArrO rfl id rfl id (fun hp => by simp at hp; omega)) rfl rfl ?_; refine TrL.gd rfl rfl rfl (ok_ldW (n - 1) (fun hp => by simp at hp; omega) (fun _ => zo) rfl id) rfl rfl ?_; refine TrL.gd rfl rfl rfl (ok_call (fun hp => ct_wsign (nth c (n - 1))) (.a rfl id <| .nil)) rfl rfl ?_; refine jx4 ?_; refine Tr.cnd rfl ?_ ?_
  ·intro h3
   try simp only [decide_eq_true_eq, Bool.and_eq_true] at h3
   have h3z := h3.2
   refine jx9 ?_
   exact End.lp (n - 1) ⟨by omega, fun i h2 h3 => by (by_cases e : i = n - 1; subst e; exact cmpZ_z.1 h3z; exact hz i zo h3)⟩ zo (Ent.mk (.i rfl zi <| zk) (zk) rfl)
  ·intro h3
   try simp only [decide_eq_true_eq, decide_eq_false_iff_not, Bool.and_eq_false_imp] at h3
   refine jx4 ?_
   exact End.cut (n) ⟨hn, trim_take zo hz (by by_cases e : n = 0; exact .inl e; exact .inr (fun e2 => h3 zo (cmpZ_z.2 e2)))⟩ (Ent.mk (.i rfl zi <| zk) (zk) rfl)
 ·rintro n ⟨hn, ht⟩
  refine jn ?_
  have htk : (List.take (n : Int).toNat (tab 4 (nth (c, d).1), (c, d).2).1).length = n := by rw [Int.toNat_natCast, List.length_take]; show min n (tab 4 (nth c)).length = n; rw [tab_len]; omega
  have hnt : ∀ i, i < n → nth (List.take (n : Int).toNat (tab 4 (nth (c, d).1), (c, d).2).1) i = nth c i := fun i h => by rw [Int.toNat_natCast]; exact (nth_take' h).trans (nth_tab zo)
  refine jx2 ?_; refine Tr.frzB 1 [1] eNu ⟨rfl, trivial⟩ rfl ?_; refine jn ?_; refine jx3 ?_; refine tO (ok_slArrPh rfl uu rfl uu rfl rfl (fun _ => zo)) rfl rfl ?_; refine jx4 ?_; refine Tr.growC 3 0 33 rfl (ks' := [kOsl 33 0, _]) rfl rfl 22 (eL eI) rfl (.cons inferInstance rfl <| .cons inferInstance rfl <| inferInstance) ?_
  refine Tr.for1 (σ := Nat) [⟨1, true, _, _⟩, ⟨2, true, _, _⟩, ⟨3, true, _, _⟩, ⟨22, true, _, _⟩, ⟨23, true, _, _⟩] [⟨2, _, _⟩] (fun k => [⟨24, true, [], kI (k : Int)⟩]) (fun k => [⟨3, [33], cBlk [kOsl 33 k, kDet (.slice none 0 0)]⟩, ⟨33, [], cArr true 22 (eL eI) (tab k fun i => lstZ (nth c i)) k⟩]) (fun k => k ≤ n) (fun k => k = n) (fun k => n - k) (0) zi (Ent.mk (.i rfl zi <| zk) (.e (by rfl) rfl <| .a (by rfl) zi <| zk) rfl) ?_ ?_
  ·intro k hR1
   refine jn ?_
   have hck := hc k
   refine jx6 ?_; refine jq ?_ ?_
   ·intro h6
    refine jx8 ?_; refine ja 6 ?_; refine jx3 ?_; refine Tr.draw 5 mixed (by kernel_rfl) ?_; refine jx3 ?_; refine rO (ok_call (fun hp => ct_wlist _ (by rw [hnt k zo]; omega)) (.se rfl uu rfl rfl <| .nil)) rfl rfl ?_; refine RunD.new (ok_bsl (eL eI) 32 (fun hp => .cons rfl <| .nil) rfl rfl rfl rfl) rfl rfl rfl rfl ?_; refine jx1 ?_; refine TrL.wkC 3 (.any <| .k <| .nil) rfl ?_; refine jx1 ?_; refine jl ?_; refine jx9 ?_
    exact End.lp (k + 1) zi zo (Ent.mk (.i rfl zi <| zk) (.e (by rfl) rfl <| .a ((congrArg (fun z => tab k (fun i => lstZ (nth c i)) ++ [lstZ z]) (hnt k zo)).trans tab_succ.symm) zi <| zk) rfl)
   ·intro h6
    replace h6 := Int.not_lt.1 h6
    refine jx4 ?_
    exact End.cut (k) zo (Ent.mk (.i rfl zi <| zk) (zk) rfl)
  ·rintro k hkn
   refine je ?_; refine jx5 ?_; refine jc (ct_wlist d zo) ?_; refine jx5 ?_; refine Tr.frzC 33 3 (by simp only [lenMax]; omega) rfl rfl ?_; refine jx6 ?_; exact Rts.resC1 (fn := Tryz.f120) rfl rfl (aggRd rfl (by rw [hkn]; exact (giveN_eq ht).resolve_right zo))

theorem ct_fWhole (n : Int) (hn : -9223372036854775808 ≤ n ∧ n ≤ 9223372036854775807) : Ct Tryz.prog 165 [kI n] (kRd eNum (giveN ([n, 0, 0, 0], 1))) := by
 have hd := dl_int hn
 refine Ct.mk Tryz.func165 rfl Tryz.ntmps165 rfl (fun w J => ?_); refine jx2 ?_; refine ja 2 ?_; refine jx5 ?_; refine jc (ct_fsmall n hn) ?_; refine tO (ok_buildL [(0, 2), (2, 2), (4, 2), (6, 2)] rfl (fun hp => .cons rfl rfl rfl <| .nil)) rfl rfl ?_; refine jc (ct_fsmall 1 zo) ?_; refine tO (ok_build (fun hp => .cons rfl rfl rfl <| .cons rfl rfl rfl <| .nil)) rfl rfl ?_; refine jc (ct_ngive [n, 0, 0, 0] 1 (fun i => dl_four (k := 899997) hd i) (by have := dl_int (n := 1) zo; omega)) ?_; refine jx4 ?_
 exact Rts.resC1 (fn := Tryz.f165) rfl rfl (aggRd rfl zi)

theorem ct_fNormalN (r : RlT) (x : NumT) (k : Nat) (hpo : PolOk r.2.1) (hx : NumOk k x) (hk : k ≤ 400000) : Ct Tryz.prog 69 [kPtr eReal r, kRd eNum x] (kRd eNum (giveN (takeN r.2.1 x))) := by
 have nx := take_NBd hpo hx
 refine Ct.mk Tryz.func69 rfl Tryz.ntmps69 rfl (fun w J => ?_); refine jx2 ?_; refine jb 3 rfl ?_; refine ja 4 ?_; refine jx6 ?_; refine tO (ok_eqlPn rfl uu) rfl rfl ?_; refine jx2 ?_; refine Tr.cnd rfl ?_ ?_
 ·intro h1
  cases h1
 ·intro h1
  refine jx6 ?_; refine jc (ct_take r x k hpo hx zo) ?_; refine jc (ct_ngive (takeN r.2.1 x).1 (takeN r.2.1 x).2 (fun i => Nat.le_trans (nx.c i) zo) (Nat.le_trans nx.d zo)) ?_; refine jx4 ?_
  exact Rts.resC1 (fn := Tryz.f69) rfl rfl (aggRd rfl zi)

theorem ct_fAddN (r : RlT) (x y : NumT) (k : Nat) (hpo : PolOk r.2.1) (hx : NumOk k x) (hy : NumOk k y) (hk : k ≤ 100000) : Ct Tryz.prog 118 [kPtr eReal r, kRd eNum x, kRd eNum y] (kRd eNum (giveN (adV (takeN r.2.1 x) (takeN r.2.1 y)))) := by
 have nx := take_NBd hpo hx
 have ny := take_NBd hpo hy
 have nz := add_NBd nx ny
 refine Ct.mk Tryz.func118 rfl Tryz.ntmps118 rfl (fun w J => ?_); refine jx2 ?_; refine jb 4 rfl ?_; refine jb 5 rfl ?_; refine ja 6 ?_; refine jx6 ?_; refine tO (ok_eqlPn rfl uu) rfl rfl ?_; refine jx2 ?_; refine Tr.cnd rfl ?_ ?_
 ·intro h1
  cases h1
 ·intro h1
  refine jx3 ?_; refine Tr.draw 5 mixed (by kernel_rfl) ?_; refine jx2 ?_; refine jd (ct_take r x k hpo hx zo) ?_; refine jx3 ?_; refine jc (ct_take r y k hpo hy zo) ?_; refine jc (ct_nplus (takeN r.2.1 x) (takeN r.2.1 y) (fun i => Nat.le_trans (nx.c i) zo) (fun i => Nat.le_trans (ny.c i) zo) (Nat.le_trans nx.d zo) (Nat.le_trans ny.d zo) nx.pos ny.pos) ?_; refine jc (ct_ngive (adV (takeN r.2.1 x) (takeN r.2.1 y)).1 (adV (takeN r.2.1 x) (takeN r.2.1 y)).2 (fun i => Nat.le_trans (nz.c i) zo) (Nat.le_trans nz.d zo)) ?_; refine jx4 ?_
  exact Rts.resC1 (fn := Tryz.f118) rfl rfl (aggRd rfl zi)

theorem ct_fSubN (r : RlT) (x y : NumT) (k : Nat) (hpo : PolOk r.2.1) (hx : NumOk k x) (hy : NumOk k y) (hk : k ≤ 100000) : Ct Tryz.prog 116 [kPtr eReal r, kRd eNum x, kRd eNum y] (kRd eNum (giveN (adV (takeN r.2.1 x) ((takeN r.2.1 y).1.map (fun z => -z), (takeN r.2.1 y).2)))) := by
 have nx := take_NBd hpo hx
 have ny := take_NBd hpo hy
 have nn := neg_NBd ny
 have nz := add_NBd nx nn
 refine Ct.mk Tryz.func116 rfl Tryz.ntmps116 rfl (fun w J => ?_); refine jx2 ?_; refine jb 4 rfl ?_; refine jb 5 rfl ?_; refine ja 6 ?_; refine jx6 ?_; refine tO (ok_eqlPn rfl uu) rfl rfl ?_; refine jx2 ?_; refine Tr.cnd rfl ?_ ?_
 ·intro h1
  cases h1
 ·intro h1
  refine jx3 ?_; refine Tr.draw 5 mixed (by kernel_rfl) ?_; refine jx2 ?_; refine jd (ct_take r x k hpo hx zo) ?_; refine jx3 ?_; refine jc (ct_take r y k hpo hy zo) ?_; refine jc (ct_nminus (takeN r.2.1 y).1 (takeN r.2.1 y).2) ?_; refine jc (ct_nplus (takeN r.2.1 x) ((takeN r.2.1 y).1.map (fun z => -z), (takeN r.2.1 y).2) (fun i => Nat.le_trans (nx.c i) zo) (fun i => Nat.le_trans (nn.c i) zo) (Nat.le_trans nx.d zo) (Nat.le_trans nn.d zo) nx.pos nn.pos) ?_; refine jc (ct_ngive (adV (takeN r.2.1 x) ((takeN r.2.1 y).1.map (fun z => -z), (takeN r.2.1 y).2)).1 (adV (takeN r.2.1 x) ((takeN r.2.1 y).1.map (fun z => -z), (takeN r.2.1 y).2)).2 (fun i => Nat.le_trans (nz.c i) zo) (Nat.le_trans nz.d zo)) ?_
  refine jx4 ?_
  exact Rts.resC1 (fn := Tryz.f116) rfl rfl (aggRd rfl zi)

theorem ct_fSignQ (r : RlT) (x : NumT) (k : Nat) (hpo : PolOk r.2.1) (h2 : r.2.1.length = 2) (hx : NumOk k x) (hk : k ≤ 400000) : Ct Tryz.prog 82 [kPtr eReal r, kRd eNum x] (kI (cmpZ (nth (takeN r.2.1 x).1 0) 0)) := by
 refine Ct.mk Tryz.func82 rfl Tryz.ntmps82 rfl (fun w J => ?_); refine jx2 ?_; refine jb 3 rfl ?_; refine jx7 ?_; refine tO (ok_eqlPn rfl uu) rfl rfl ?_; refine jx2 ?_; refine Tr.cnd rfl ?_ ?_
 ·intro h1
  cases h1
 ·intro h1
  refine jx7 ?_; refine jc (ct_take r x k hpo hx zo) ?_; refine jc (ct_signQ r (takeN r.2.1 x).1 (takeN r.2.1 x).2 (ratB_pad h2)) ?_; refine jx4 ?_
  exact Rts.res1 (fn := Tryz.f82) rfl (.i rfl zi <| .nil)

theorem ct_fCmpQ (r : RlT) (x y : NumT) (k : Nat) (hpo : PolOk r.2.1) (hx : NumOk k x) (hy : NumOk k y) (hk : k ≤ 100000) (h2 : r.2.1.length = 2) : Ct Tryz.prog 83 [kPtr eReal r, kRd eNum x, kRd eNum y] (kI (cmpZ (nth (adV (takeN r.2.1 x) ((takeN r.2.1 y).1.map (fun z => -z), (takeN r.2.1 y).2)).1 0) 0)) := by
 have nx := take_NBd hpo hx
 have ny := take_NBd hpo hy
 have nn := neg_NBd ny
 have nz := add_NBd nx nn
 refine Ct.mk Tryz.func83 rfl Tryz.ntmps83 rfl (fun w J => ?_); refine jx2 ?_; refine jb 4 rfl ?_; refine jb 5 rfl ?_; refine jx7 ?_; refine tO (ok_eqlPn rfl uu) rfl rfl ?_; refine jx2 ?_; refine Tr.cnd rfl ?_ ?_
 ·intro h1
  cases h1
 ·intro h1
  refine jx3 ?_; refine Tr.draw 9 mixed (by kernel_rfl) ?_; refine jx3 ?_; refine jd (ct_take r x k hpo hx zo) ?_; refine jx2 ?_; refine jd (ct_take r y k hpo hy zo) ?_; refine jd (ct_nminus (takeN r.2.1 y).1 (takeN r.2.1 y).2) ?_; refine jd (ct_nplus (takeN r.2.1 x) ((takeN r.2.1 y).1.map (fun z => -z), (takeN r.2.1 y).2) (fun i => Nat.le_trans (nx.c i) zo) (fun i => Nat.le_trans (nn.c i) zo) (Nat.le_trans nx.d zo) (Nat.le_trans nn.d zo) nx.pos nn.pos) ?_; refine jx1 ?_; refine jc (ct_signQ r (adV (takeN r.2.1 x) ((takeN r.2.1 y).1.map (fun z => -z), (takeN r.2.1 y).2)).1 (adV (takeN r.2.1 x) ((takeN r.2.1 y).1.map (fun z => -z), (takeN r.2.1 y).2)).2 (ratB_add (ratB_pad h2) (ratB_neg (ratB_pad h2)))) ?_
  refine jx4 ?_
  exact Rts.res1 (fn := Tryz.f83) rfl (.i rfl zi <| .nil)

end Go.Fl

/- Contracts: the rational field is opened. -/
namespace Go.Fl
open Go Go.Proofs
open TrL renaming op → tO
open RunD renaming op → rO
set_option maxRecDepth 100000

abbrev ratR : RlT := (ratF, [0, 1], [1], 0, 0, 1)
theorem ct_polyOf (f : FdT) (hf : ∀ i, -9223372036854775808 ≤ nth f.1 i ∧ nth f.1 i ≤ 9223372036854775807) (hl : f.1.length ≤ 1000000) : Ct Tryz.prog 158 [kRd eFd f] (kRd (eL eZ) f.1) := by
 refine Ct.mk Tryz.func158 rfl Tryz.ntmps158 rfl (fun w J => ?_); refine jx2 ?_; refine jb 1 rfl ?_; refine jx17 ?_; refine Tr.grow (s := 3) rfl rfl 3 rfl 160 eZ rfl ?_
 refine Tr.for1 (σ := Nat) [⟨7, true, _, _⟩, ⟨8, true, _, _⟩] [] (fun k => [⟨3, true, [3], kOsl 3 k⟩, ⟨9, true, [], kI (k : Int)⟩]) (fun k => [⟨3, [], cArr true 160 eZ (f.1.take k) k⟩]) (fun k => k ≤ f.1.length) (fun k => k = f.1.length) (fun k => f.1.length - k) (0) zi (Ent.mk (.o rfl zi rfl <| .i rfl zi <| zk) (.a (by rfl) zi <| .nil) rfl) ?_ ?_
 ·intro k hR0
  refine jn ?_
  have hfk := hf k
  refine jx6 ?_; refine jq ?_ ?_
  ·intro h3
   refine jx14 ?_; refine tO (ok_call (fun hp => ct_fsmall _ zo) (.a rfl uu <| .nil)) rfl rfl ?_; refine TrL.new (ok_bsl eZ 16 (fun hp => .cons rfl <| .nil) rfl rfl rfl rfl) rfl rfl rfl rfl ?_; refine jx1 ?_; refine jl ?_; refine jx8 ?_
   exact End.lp (k + 1) zi zo (Ent.mk (.o rfl zi rfl <| .i rfl zi <| zk) (.a (by rw [take_succ_nth zo]) zi <| .nil) rfl)
  ·intro h3
   replace h3 := Int.not_lt.1 h3
   refine jx4 ?_
   exact End.cut (k) zo (Ent.mk (.o rfl zi rfl <| .i rfl zi <| zk) (zk) rfl)
 ·rintro k hkn
  refine je ?_
  have htk : f.1.take k = f.1 := by rw [hkn, List.take_length]
  refine jx7 ?_; refine Tr.frz 3 [2] ⟨rfl, trivial⟩ (by simp only [lenMax]; omega) rfl ?_; refine jx1 ?_; exact Rts.res1 (fn := Tryz.f158) rfl (.r rfl (by rw [htk]) <| .nil)

theorem ct_fOpenRat  : Ct Tryz.prog 113 [kRd eFd ratF] (kTup [kPtr eReal ratR, kI 0]) := by
 have hr : ∀ i, -9223372036854775808 ≤ nth ratF.1 i ∧ nth ratF.1 i ≤ 9223372036854775807 := fun i => by match i with | 0 => decide | 1 => decide | i + 2 => (show -9223372036854775808 ≤ (0 : Int) ∧ (0 : Int) ≤ 9223372036854775807; decide)
 have hdg : Ct Tryz.prog 160 [kPtr eReal (ratF, [0, 1], [], 0, 0, 1)] (kI 1) := ct_degree (ratF, [0, 1], [], 0, 0, 1) (by decide)
 refine Ct.mk Tryz.func113 rfl Tryz.ntmps113 rfl (fun w J => ?_); refine jx2 ?_; refine jb 1 rfl ?_; refine jx8 ?_; refine jc ct_fCheckRat ?_; refine jx9 ?_; refine Tr.cnd rfl ?_ ?_
 ·intro h2
  exact absurd h2 (by decide)
 ·intro h2
  refine jx6 ?_; refine tO (ok_call (fun hp => ct_cloneI _ (by decide)) (.a rfl uu <| .nil)) rfl rfl ?_; refine jx5 ?_; refine Tr.draw 12 mixed (by kernel_rfl) ?_; refine jx2 ?_; refine jd (ct_polyOf ratF hr (by decide)) ?_; refine jx2 ?_; refine jd (ct_fsmall 0 zo) ?_; refine jx2 ?_; refine jd (ct_fsmall 0 zo) ?_; refine jx2 ?_; refine jd (ct_fsmall 1 zo) ?_; refine jx1 ?_; refine tO (ok_build (fun hp => .cons rfl rfl rfl <| .cons rfl rfl rfl <| .cons rfl rfl rfl <| .cons rfl rfl rfl <| .cons rfl rfl rfl <| .nil)) rfl rfl ?_; refine jb 32 rfl ?_; refine jx6 ?_
  refine tO (ok_lendP (fun hp => hdg) rfl rfl uu (.nil)) rfl rfl ?_; refine jx7 ?_; refine jc (ct_fsmall 1 zo) ?_; refine TrL.new (ok_bsl eZ 38 (fun hp => .cons rfl <| .nil) rfl rfl rfl rfl) rfl rfl rfl rfl ?_; refine tO (ok_nilO rfl uu) rfl rfl ?_; refine jx6 ?_; refine Tr.frzC 38 32 (by decide) rfl rfl ?_; refine jn ?_; refine Tr.frzB 32 [32, 5, 33, 35, 39] eReal ⟨rfl, rfl, rfl, rfl, rfl, trivial⟩ rfl ?_; refine jn ?_; refine jx4 ?_
  refine Tr.for1 (σ := Nat) [⟨5, true, _, _⟩, ⟨6, true, _, _⟩] [] (fun k => [⟨7, true, [], kI (k : Int)⟩]) (fun k => []) (fun k => k = 1) (fun k => k = 1) (fun k => k) (1) zi (Ent.mk (.i rfl zi <| zk) (.nil) rfl) ?_ ?_
  ·rintro _ rfl
   refine jn ?_; refine jx8 ?_; refine Tr.cnd rfl ?_ ?_
   ·intro h9
    exact absurd h9 (by decide)
   ·intro h9
    refine jx4 ?_
    exact End.cut (1) rfl (Ent.mk (.i rfl zi <| zk) (.nil) rfl)
  ·rintro _ rfl
   refine je ?_; refine jx8 ?_; refine Tr.cnd rfl ?_ ?_
   ·intro h17
    exact absurd h17 (by decide)
   ·intro h17
    refine jx10 ?_
    exact Rts.res (fn := Tryz.f113) (ts := [2, 3]) rfl rfl (.p rfl zi <| .i rfl zi <| .nil)

end Go.Fl

/- An empty text. -/

/- Texts of origamis, the steps of the code: lines, numerals, cutting, numbers. Plain Lean, no program in sight. -/
namespace Go.Fl
def lrow (w : Bt) (p : List Int) (k : Nat) : List ByteArray := mkS w :: (p.take k).map fun x => mkS (num x)
def decK (n : Int) : Nat := if n.natAbs < 10 then 1 else 2
def decN (n : Int) (j : Nat) : Int := if j = 0 then n else if j = 1 then n.tdiv 10 else 0
def decS (n : Int) (j : Nat) : Bt := if j = 0 then [] else if j = 1 then [UInt8.ofNat (48 + n.natAbs % 10)] else [UInt8.ofNat (48 + n.natAbs / 10), UInt8.ofNat (48 + n.natAbs % 10)]
def dig10 : ByteArray := mkS [48, 49, 50, 51, 52, 53, 54, 55, 56, 57]
def absI (n : Int) : Int := if n < 0 then -n else n
def decOk (n : Int) (j : Nat) : Bool := !decide (j ≤ decK n) ||
  (((decide (mkS (decS n j) = mkS []) || decide (decN n j ≠ 0)) == decide (j < decK n)) &&
   (!decide (j < decK n) || (decide (dig10.extract (absI ((decN n j).tmod 10)).toNat (absI ((decN n j).tmod 10) + 1).toNat ++ mkS (decS n j) = mkS (decS n (j + 1))) && decide ((decN n j).tdiv 10 = decN n (j + 1)))) &&
   decide (absI ((decN n j).tmod 10) < 10) && decide (-10 < (decN n j).tmod 10) && decide (decS n (decK n) = (if n < 0 then num (-n) else num n)) && decide (-100 < decN n j) && decide (decN n j < 100))
def rpT (w : Bt) (p : List Int) (k : Nat) : Bt := w ++ wds (p.take k)
def cutT (s : ByteArray) (c : Int) : Nat → List ByteArray
  | 0 => [mkS []]
  | i + 1 => if nth (bs s) i = c then cutT s c i ++ [mkS []] else (cutT s c i).set ((cutT s c i).length - 1) (nth (cutT s c i) ((cutT s c i).length - 1) ++ s.extract i (i + 1))
def cutS (s : ByteArray) (c : Int) : List ByteArray := cutT s c s.size
def frm (s : ByteArray) : Nat := if 0 < s.size ∧ nth (bs s) 0 = 45 then 1 else 0
def vT (s : ByteArray) (f : Nat) : Nat → Int
  | 0 => 0
  | k + 1 => 10 * vT s f k + (nth (bs s) (f + k) - 48)
def isD (s : ByteArray) (i : Nat) : Prop := 48 ≤ nth (bs s) i ∧ nth (bs s) i ≤ 57
instance (s : ByteArray) (i : Nat) : Decidable (isD s i) := by unfold isD; infer_instance
def numV (s : ByteArray) : Int := if frm s = 1 then -vT s (frm s) (s.size - frm s) else vT s (frm s) (s.size - frm s)
def numR (s : ByteArray) : Int × Bool :=
  if s.size < frm s + 1 ∨ frm s + 2 < s.size then (0, false)
  else if ∀ k, k < s.size - frm s → isD s (frm s + k) then (numV s, decide (mkS (dcm (numV s)) = s)) else (0, false)
def nmsR (l : List ByteArray) : List Int × Bool := if ∀ k, k < l.length - 1 → (numR (nth l (k + 1))).2 = true then ((l.drop 1).map fun x => (numR x).1, true) else ([], false)
def nmsT (l : List ByteArray) (k : Nat) : List Int := ((l.drop 1).take k).map fun x => (numR x).1
def isO (s : ByteArray) : Ori := ((nmsR (cutS (nth (cutS s 10) 0) 32)).1, (nmsR (cutS (nth (cutS s 10) 1) 32)).1)
def isTx (s : ByteArray) : Bool :=
  if (cutS s 10).length ≠ 3 ∨ nth (cutS s 10) 2 ≠ mkS [] then false
  else if nth (cutS (nth (cutS s 10) 0) 32) 0 ≠ mkS wR ∨ nth (cutS (nth (cutS s 10) 1) 32) 0 ≠ mkS wU then false
  else (((nmsR (cutS (nth (cutS s 10) 0) 32)).2 && (nmsR (cutS (nth (cutS s 10) 1) 32)).2) && decide (chkO (isO s) = 0)) && decide (mkS (prt (isO s)) = s)
end Go.Fl

/- Reading a text, step by step. Plain Lean, no program in sight. -/
namespace Go.Fl
def LS (s : ByteArray) : List ByteArray := (lns (dS s)).map mkS
def trS (s : ByteArray) (j : Nat) : ByteArray := mkS (Lib.trimSuffix (dS (nth (LS s) j)) [10])
def splS (s : ByteArray) (j : Nat) : List ByteArray := (Lib.split (dS (trS s j)) [32]).map mkS
def WS (s : ByteArray) (j : Nat) : List ByteArray := (splS s j).drop 1
def okW (w : ByteArray) : Prop := atO (dS w) ≠ none
instance (w : ByteArray) : Decidable (okW w) := by unfold okW; infer_instance
def okL (s : ByteArray) (j k : Nat) : Prop := ∀ i, i < k → okW (nth (WS s j) i)
def okA (s : ByteArray) (j : Nat) : Prop := ∀ i, i < j → okL s i (WS s i).length
def vls (l : List ByteArray) : List Int := l.map fun x => atV (dS x)
def pR (s : ByteArray) (j k : Nat) : List Int := if j = 0 then vls ((WS s 0).take k) else vls (WS s 0)
def pU (s : ByteArray) (j k : Nat) : List Int := if j = 0 then [] else if j = 1 then vls ((WS s 1).take k) else vls (WS s 1)
end Go.Fl

/- Texts of rows, in plain Lean: what is printed is read back, by words and by cutting. No program in sight. -/
namespace Go.Fl
def cutF (acc : List Bt) (b : UInt8) (c : UInt8) : List Bt := if b = c then acc ++ [[]] else acc.set (acc.length - 1) (acc.getD (acc.length - 1) [] ++ [b])
def cutLs (c : UInt8) (l : Bt) (acc : List Bt) : List Bt := l.foldl (fun a b => cutF a b c) acc
def sepW (ws : List Bt) : Bt := ws.flatMap fun w => 32 :: w
def pmR (p : List Int) (n : Nat) : Prop := inR p n ∧ p.Nodup ∧ p.length = n
instance (p : List Int) (n : Nat) : Decidable (pmR p n) := by unfold pmR; infer_instance
def chkR (r : Ori) : Int := if r.2.length ≠ r.1.length ∨ r.1.length < 2 ∨ 8 < r.1.length then 10 else if ¬ (pmR r.1 r.1.length ∧ pmR r.2 r.1.length) then 3 else 0
structure RowsOk (r : Ori) : Prop where
 len : r.2.length = r.1.length
 two : 2 ≤ r.1.length
 le : r.1.length ≤ 8
 p1 : pmR r.1 r.1.length
 p2 : pmR r.2 r.1.length
theorem rows_of {r : Ori} (h : chkR r = 0) : RowsOk r := by
 unfold chkR at h
 by_cases h1 : r.2.length ≠ r.1.length ∨ r.1.length < 2 ∨ 8 < r.1.length
 ·rw [if_pos h1] at h; cases h
 rw [if_neg h1] at h
 by_cases h2 : ¬ (pmR r.1 r.1.length ∧ pmR r.2 r.1.length)
 ·rw [if_pos h2] at h; cases h
 have h2 := Classical.not_not.1 h2
 exact ⟨by omega, by omega, by omega, h2.1, h2.2⟩
theorem chkR_of {r : Ori} (h : RowsOk r) : chkR r = 0 := by
 have h1 := h.len; have h2 := h.two; have h3 := h.le
 unfold chkR
 rw [if_neg zo, if_neg (fun hh => hh ⟨h.p1, h.p2⟩)]
def wrdR (r : Ori) : List Bt := r.1.map num ++ [47] :: r.2.map num
def prR (r : Ori) : Bt := Lib.join (wrdR r) [32]
end Go.Fl

/- Reading rows, as the program and as the reference do: both read just what is printed of rows. Plain Lean, no program in sight. -/
namespace Go.Fl
def foldO {σ α : Type} (f : σ → α → Option σ) (s : σ) (l : List α) : Option σ := l.foldl (fun o x => o.bind fun t => f t x) (some s)
abbrev RdS := Bool × List Int × List Int
def stP (st : RdS) (w : Bt) : Option RdS :=
 if w = [47] then some (true, st.2.1, st.2.2)
 else if atO w = none ∨ 8 < (if st.1 then st.2.2 else st.2.1).length then none
 else if st.1 then some (true, st.2.1, st.2.2 ++ [atV w]) else some (false, st.2.1 ++ [atV w], st.2.2)
def rdP (ws : List Bt) : Option RdS := foldO stP (false, [], []) ws
def parP (s : Bt) : Ori × Int := match rdP (Lib.split s [32]) with
 | none => (([], []), 7)
 | some (_, a, b) => if chkR (a, b) = 0 ∧ prR (a, b) = s then ((a, b), 0) else (([], []), 7)
def stQ (st : RdS) (w : ByteArray) : Option RdS :=
 if w = mkS [47] ∧ st.1 = false then some (true, st.2.1, st.2.2)
 else if (numR w).2 = false then none
 else if st.1 then some (true, st.2.1, st.2.2 ++ [(numR w).1]) else some (false, st.2.1 ++ [(numR w).1], st.2.2)
def rdQ (ws : List ByteArray) : Option RdS := foldO stQ (false, [], []) ws
def parQ (s : ByteArray) : Ori × Bool := match rdQ (cutS s 32) with
 | none => (([], []), false)
 | some (_, a, b) => if chkR (a, b) = 0 ∧ mkS (prR (a, b)) = s then ((a, b), true) else (([], []), false)
end Go.Fl

/- Rows: what makes them valid, in the words of both programs; irreducible rows. Plain Lean, no program in sight. -/
namespace Go.Fl
theorem nodup_lenI : ∀ {n : Nat} {l : List Int}, l.Nodup → (∀ x ∈ l, 0 ≤ x ∧ x < n) → l.length ≤ n
 | 0, l, _, hb => by
  cases l with
  | nil => simp
  | cons a l => have := hb a (by simp); omega
 | n + 1, l, hd, hb => by
  by_cases hm : (n : Int) ∈ l
  ·have h1 := nodup_lenI (n := n) (l := l.erase (n : Int)) (hd.erase _) (fun x hx => by
    have h2 := hb x (List.mem_of_mem_erase hx)
    have h3 : x ≠ n := fun e => by subst e; exact (List.Nodup.not_mem_erase hd) hx
    omega)
   rw [List.length_erase_of_mem hm] at h1
   omega
  ·have := nodup_lenI (n := n) (l := l) hd (fun x hx => by
    have h2 := hb x hx
    have h3 : x ≠ n := fun e => hm (e ▸ hx)
    omega)
   omega
theorem inR_all {p : List Int} {n : Nat} (h : ∀ x ∈ p, 0 ≤ x ∧ x < n) : inR p n := fun _ hi => h _ (nth_mem hi)
theorem onto_pm : ∀ {n : Nat} {l : List Int}, (∀ i : Nat, i < n → (i : Int) ∈ l) → l.length = n → l.Nodup ∧ ∀ x ∈ l, 0 ≤ x ∧ x < n
 | 0, l, _, hl => by
  obtain rfl := List.eq_nil_of_length_eq_zero hl
  simp
 | n + 1, l, h, hl => by
  have hm : (n : Int) ∈ l := h n zo
  have ih := onto_pm (n := n) (l := l.erase (n : Int)) (fun i hi => (List.mem_erase_of_ne zo).2 (h i zo)) (by rw [List.length_erase_of_mem hm]; omega)
  have hp := List.perm_cons_erase hm
  have hn : (n : Int) ∉ l.erase (n : Int) := fun hh => by have := ih.2 _ hh; omega
  refine ⟨hp.nodup_iff.2 (List.nodup_cons.2 ⟨hn, ih.1⟩), fun x hx => ?_⟩
  rcases List.mem_cons.1 (hp.mem_iff.1 hx) with rfl | hx
  ·omega
  ·have := ih.2 x hx; omega
theorem pmR_onto {l : List Int} {n : Nat} : pmR l n ↔ (∀ i : Nat, i < n → (i : Int) ∈ l) ∧ l.length = n := by
 constructor
 ·rintro ⟨h1, h2, h3⟩
  refine ⟨fun i hi => Classical.byContradiction fun hn => ?_, h3⟩
  have := nodup_lenI (n := n) (l := (i : Int) :: l) (List.nodup_cons.2 ⟨hn, h2⟩) (fun x hx => by
   rcases List.mem_cons.1 hx with rfl | hx
   ·omega
   ·exact inR_mem h1 hx)
  rw [List.length_cons] at this; omega
 ·rintro ⟨h1, h2⟩
  obtain ⟨a, b⟩ := onto_pm h1 h2
  exact ⟨inR_all b, a, h2⟩
theorem nodup_take {l : List Int} {k : Nat} (hd : l.Nodup) (h : k < l.length) : nth l k ∉ l.take k := fun hm => by
 have h1 : (l.take (k + 1)).Nodup := hd.sublist (List.take_sublist _ _)
 rw [take_succ_nth h] at h1
 exact (List.nodup_append.1 h1).2.2 _ hm _ (by simp) rfl
def irrK (r : Ori) (k : Nat) : Bool := (r.1.take k).any fun a => !decide (a ∈ r.2.take k)
def irrR (r : Ori) : Bool := decide (∀ k, k < r.1.length → 1 ≤ k → irrK r k = true)
def samK (r : Ori) (k i : Nat) : Bool := (r.2.take i).all fun a => decide (a ∈ r.1.take k)
end Go.Fl

/- Contracts: the library, the base, rows (chapter 5). -/
namespace Go.Fl
open Go Go.Proofs
open TrL renaming op → tO
open RunD renaming op → rO
set_option maxRecDepth 100000


theorem ct_Ints (a b : List Int) : Ct Tryz.prog 23 [kRd (eL eI) a, kRd (eL eI) b] (kB (decide (a = b))) := by
 refine Ct.mk Tryz.func23 rfl Tryz.ntmps23 rfl (fun w J => ?_); refine Tr.fact (s := 0) rfl (fun _ _ h => lenB h) (fun hb => ?_); refine jx15 ?_; refine jq ?_ ?_
 ·intro h1
  refine jx7 ?_; exact Rts.res1 (fn := Tryz.f23) rfl (.b rfl (by symm; rw [decide_eq_false_iff_not]; intro e; exact h1 (by rw [e])) <| .nil)
 ·intro h1
  replace h1 := Classical.not_not.1 h1
  refine jx8 ?_
  refine Tr.for1 (σ := Nat) [⟨0, true, _, _⟩, ⟨1, true, _, _⟩] [] (fun k => [⟨5, true, [], kI (k : Int)⟩]) (fun k => []) (fun k => k ≤ a.length ∧ ∀ i, i < k → nth a i = nth b i) (fun k => a = b) (fun k => a.length - k) (0) ⟨Nat.zero_le _, fun i h => absurd h zo⟩ (Ent.mk (.i rfl zi <| zk) (.nil) rfl) ?_ ?_
  ·rintro k ⟨hk0, hR0⟩
   refine jn ?_; refine jx9 ?_; refine jq ?_ ?_
   ·intro h4
    refine jx5 ?_; refine Tr.draw 8 mixed (by kernel_rfl) ?_; refine jx12 ?_; refine jq ?_ ?_
    ·intro h6
     refine jx12 ?_; exact Rts.res1 (fn := Tryz.f23) rfl (.b rfl (by symm; rw [decide_eq_false_iff_not]; intro e; exact h6 (by rw [e])) <| .nil)
    ·intro h6
     replace h6 := Classical.not_not.1 h6
     refine jx8 ?_
     exact End.lp (k + 1) ⟨by omega, all_succ hR0 h6⟩ zo (Ent.mk (.i rfl zi <| zk) (.nil) rfl)
   ·intro h4
    replace h4 := Int.not_lt.1 h4
    refine jx4 ?_
    exact End.cut (k) (ext_nth zo (fun i hi => hR0 i zo)) (Ent.mk (.i rfl zi <| zk) (.nil) rfl)
  ·intro k hE0
   refine je ?_; refine jx7 ?_; exact Rts.res1 (fn := Tryz.f23) rfl (.b rfl (by symm; rw [decide_eq_true_eq]; exact hE0) <| .nil)

theorem ct_bHas (l : List Int) (x : Int) : Ct Tryz.prog 152 [kRd (eL eI) l, kI x] (kB (decide (x ∈ l))) := by
 refine Ct.mk Tryz.func152 rfl Tryz.ntmps152 rfl (fun w J => ?_); refine Tr.fact (s := 0) rfl (fun _ _ h => lenB h) (fun hb => ?_); refine jx11 ?_
 refine Tr.for1 (σ := Nat) [⟨0, true, _, _⟩, ⟨1, true, _, _⟩] [] (fun k => [⟨5, true, [], kI (k : Int)⟩]) (fun k => []) (fun k => k ≤ l.length ∧ ∀ i, i < k → nth l i ≠ x) (fun k => ∀ i, i < l.length → nth l i ≠ x) (fun k => l.length - k) (0) ⟨Nat.zero_le _, fun i h => absurd h zo⟩ (Ent.mk (.i rfl zi <| zk) (.nil) rfl) ?_ ?_
 ·rintro k ⟨hk0, hR0⟩
  refine jn ?_; refine jx9 ?_; refine jq ?_ ?_
  ·intro h2
   refine jx14 ?_; refine jq ?_ ?_
   ·intro h4
    refine jx12 ?_; exact Rts.res1 (fn := Tryz.f152) rfl (.b rfl (by symm; rw [decide_eq_true_eq, ← h4]; exact nth_mem zo) <| .nil)
   ·intro h4
    refine jx8 ?_
    exact End.lp (k + 1) ⟨by omega, all_succ hR0 h4⟩ zo (Ent.mk (.i rfl zi <| zk) (.nil) rfl)
  ·intro h2
   replace h2 := Int.not_lt.1 h2
   refine jx4 ?_
   exact End.cut (k) (fun i hi => hR0 i zo) (Ent.mk (.i rfl zi <| zk) (.nil) rfl)
 ·intro k hE0
  refine je ?_; refine jx7 ?_; exact Rts.res1 (fn := Tryz.f152) rfl (.b rfl (by symm; rw [decide_eq_false_iff_not]; intro hm; obtain ⟨i, hi, e⟩ := List.mem_iff_getElem.1 hm; exact hE0 i hi (by rw [nth_of_get? (List.getElem?_eq_getElem hi), e])) <| .nil)

theorem ct_rOrder5 (l : List Int) (n : Nat) (hn : n ≤ 100) : Ct Tryz.prog 121 [kRd (eL eI) l, kI (n : Int)] (kB (decide (pmR l n))) := by
 refine Ct.mk Tryz.func121 rfl Tryz.ntmps121 rfl (fun w J => ?_); refine Tr.fact (s := 0) rfl (fun _ _ h => lenB h) (fun hb => ?_); refine jx11 ?_
 refine Tr.for1 (σ := Nat) [⟨0, true, _, _⟩, ⟨1, true, _, _⟩] [] (fun k => [⟨5, true, [], kI (k : Int)⟩]) (fun k => []) (fun k => k ≤ n ∧ ∀ i, i < k → (i : Int) ∈ l) (fun k => ∀ i, i < n → (i : Int) ∈ l) (fun k => n - k) (0) ⟨Nat.zero_le _, fun i h => absurd h zo⟩ (Ent.mk (.i rfl zi <| zk) (.nil) rfl) ?_ ?_
 ·rintro k ⟨hk0, hR0⟩
  refine jn ?_; refine jx8 ?_; refine jq ?_ ?_
  ·intro h2
   refine jx8 ?_; refine tO (ok_call (fun hp => ct_bHas _ _) (.a rfl uu <| .a rfl uu <| .nil)) rfl rfl ?_; refine jx3 ?_; refine Tr.cnd rfl ?_ ?_
   ·intro h4
    try simp only [decide_eq_false_iff_not, Bool.not_eq_true'] at h4
    refine jx12 ?_; exact Rts.res1 (fn := Tryz.f121) rfl (.b rfl (by symm; rw [decide_eq_false_iff_not, pmR_onto]; intro hh; exact h4 (hh.1 k zo)) <| .nil)
   ·intro h4
    try simp only [decide_eq_true_eq, Bool.not_eq_false'] at h4
    refine jx8 ?_
    exact End.lp (k + 1) ⟨by omega, all_succ hR0 h4⟩ zo (Ent.mk (.i rfl zi <| zk) (.nil) rfl)
  ·intro h2
   replace h2 := Int.not_lt.1 h2
   refine jx4 ?_
   exact End.cut (k) (fun i hi => hR0 i zo) (Ent.mk (.i rfl zi <| zk) (.nil) rfl)
 ·intro k hE0
  refine je ?_; refine jx11 ?_; exact Rts.res1 (fn := Tryz.f121) rfl (.b rfl (by rw [Bool.eq_iff_iff, decide_eq_true_eq, decide_eq_true_eq, pmR_onto]; exact ⟨fun e => ⟨hE0, by omega⟩, fun e => by have := e.2; omega⟩) <| .nil)

theorem ct_rCheckRows (r : Ori) : Ct Tryz.prog 70 [kRd eO r] (kI (chkR r)) := by
 refine Ct.mk Tryz.func70 rfl Tryz.ntmps70 rfl (fun w J => ?_); refine jx2 ?_; refine jb 1 rfl ?_; refine jx29 ?_; refine Tr.cnd rfl ?_ ?_
 ·intro h2
  try simp only [decide_eq_true_eq, Bool.or_eq_true, ne_eq] at h2
  refine jx7 ?_; exact Rts.res1 (fn := Tryz.f70) rfl (.i rfl (by unfold chkR; rw [if_pos zo]) <| .nil)
 ·intro h2
  try simp only [decide_eq_false_iff_not, Bool.or_eq_false_iff, Int.not_lt, ne_eq, Classical.not_not] at h2
  refine jx8 ?_; refine tO (ok_call (fun hp => ct_rOrder5 _ _ zo) (.a rfl uu <| .a rfl uu <| .nil)) rfl rfl ?_; refine jx5 ?_; refine TrL.gd rfl rfl rfl (ok_call (fun hp => ct_rOrder5 _ _ zo) (.a rfl id <| .a rfl id <| .nil)) rfl rfl ?_; refine jx4 ?_; refine Tr.cnd rfl ?_ ?_
  ·intro h4
   try simp only [decide_eq_false_iff_not, Bool.or_eq_true, Bool.not_eq_true'] at h4
   refine jx7 ?_; exact Rts.res1 (fn := Tryz.f70) rfl (.i rfl (by unfold chkR; rw [if_neg zo, if_pos (fun hh => h4.elim (fun h => h hh.1) (fun h => h hh.2))]) <| .nil)
  ·intro h4
   try simp only [decide_eq_true_eq, Bool.not_eq_false', Bool.or_eq_false_iff] at h4
   refine jx8 ?_; exact Rts.res1 (fn := Tryz.f70) rfl (.i rfl (by unfold chkR; rw [if_neg zo, if_neg (fun hh => hh h4)]) <| .nil)

theorem ct_permuted (l : List Int) (n : Nat) (hn : n ≤ 100) : Ct Tryz.prog 153 [kRd (eL eI) l, kI (n : Int)] (kB (decide (pmR l n))) := by
 refine Ct.mk Tryz.func153 rfl Tryz.ntmps153 rfl (fun w J => ?_); refine Tr.fact (s := 0) rfl (fun _ _ h => lenB h) (fun hb => ?_); refine jx8 ?_; refine TrL.new (ok_makeN eBool 9 rfl uu rfl uu rfl rfl rfl (fun _ => zo)) rfl rfl rfl rfl ?_; refine jx11 ?_
 refine Tr.for1 (σ := Nat) [⟨0, true, _, _⟩, ⟨1, true, _, _⟩, ⟨5, true, _, _⟩, ⟨10, true, _, _⟩, ⟨11, true, _, _⟩] [] (fun k => [⟨12, true, [], kI (k : Int)⟩]) (fun k => [⟨9, [], cArr false 4 eBool (seenB n (l.take k)) n⟩]) (fun k => k ≤ l.length ∧ (∀ i, i < k → 0 ≤ nth l i ∧ nth l i < n) ∧ (l.take k).Nodup) (fun k => inR l n ∧ l.Nodup) (fun k => l.length - k) (0) ⟨by omega, fun i h => absurd h zo, by simp⟩ (Ent.mk (.i rfl zi <| zk) (.a (by simp [seenB_nil]) zi <| .nil) rfl) ?_ ?_
 ·rintro k ⟨hk, hR, hD⟩
  refine jn ?_; refine jx6 ?_; refine jq ?_ ?_
  ·intro h3
   refine jx24 ?_
   first | refine TrL.gd rfl rfl rfl (ok_idxEN rfl id rfl id (fun hp => by simp at hp; omega)) rfl rfl ?_ | refine TrL.gd rfl rfl rfl (ok_idxE rfl id rfl id (fun hp => by simp at hp; omega)) rfl rfl ?_
   refine jx4 ?_; refine Tr.cnd rfl ?_ ?_
   ·intro h5
    have hbad : ¬ (0 ≤ nth l k ∧ nth l k < n ∧ nth l k ∉ l.take k) := by (rintro ⟨a, b, c⟩; simp only [Bool.or_eq_true, decide_eq_true_eq, nth_seenB' a b] at h5; rcases h5 with (h | h) | h; omega; omega; exact c h)
    refine jx13 ?_; exact Rts.res1 (fn := Tryz.f153) rfl (.b rfl (by symm; rw [decide_eq_false_iff_not]; rintro ⟨hh1, hh2, _⟩; exact hbad ⟨(hh1 k zo).1, (hh1 k zo).2, nodup_take hh2 zo⟩) <| .nil)
   ·intro h5
    have hgood : 0 ≤ nth l k ∧ nth l k < n ∧ nth l k ∉ l.take k := by (simp only [Bool.or_eq_false_iff, decide_eq_false_iff_not] at h5; obtain ⟨⟨q1, q2⟩, q3⟩ := h5; have a : 0 ≤ nth l k := zo; have b : nth l k < n := zo; rw [nth_seenB' a b] at q3; exact ⟨a, b, of_decide_eq_false q3⟩)
    refine jx14 ?_
    exact End.lp (k + 1) ⟨by omega, all_succ hR ⟨hgood.1, hgood.2.1⟩, by (rw [take_succ_nth zo]; exact nodup_snoc hD (decide_eq_false hgood.2.2))⟩ zo (Ent.mk (.i rfl zi <| zk) (.a (by rw [take_succ_nth zo, seenB_set zo]) zi <| .nil) rfl)
  ·intro h3
   replace h3 := Int.not_lt.1 h3
   refine jx4 ?_
   exact End.cut (k) ⟨fun i hi => hR i zo, by (rw [List.take_of_length_le zo] at hD; exact hD)⟩ (Ent.mk (.i rfl zi <| zk) (.a zi zi <| .nil) rfl)
 ·rintro k ⟨hr, hd⟩
  refine je ?_; refine jx11 ?_; exact Rts.res1 (fn := Tryz.f153) rfl (.b rfl (by rw [Bool.eq_iff_iff, decide_eq_true_eq, decide_eq_true_eq]; exact ⟨fun e => ⟨hr, hd, by omega⟩, fun e => by have := e.2.2; omega⟩) <| .nil)

theorem ct_eCheckRows (r : Ori) : Ct Tryz.prog 108 [kRd eO r] (kI (chkR r)) := by
 refine Ct.mk Tryz.func108 rfl Tryz.ntmps108 rfl (fun w J => ?_); refine jx2 ?_; refine jb 1 rfl ?_; refine jx31 ?_; refine Tr.cnd rfl ?_ ?_
 ·intro h2
  try simp only [decide_eq_true_eq, Bool.or_eq_true, ne_eq] at h2
  refine jx8 ?_; exact Rts.res1 (fn := Tryz.f108) rfl (.i rfl (by unfold chkR; rw [if_pos zo]) <| .nil)
 ·intro h2
  try simp only [decide_eq_false_iff_not, Bool.or_eq_false_iff, Int.not_lt, ne_eq, Classical.not_not] at h2
  refine jx5 ?_; refine tO (ok_call (fun hp => ct_permuted _ _ zo) (.a rfl uu <| .a rfl uu <| .nil)) rfl rfl ?_; refine jx5 ?_; refine TrL.gd rfl rfl rfl (ok_call (fun hp => ct_permuted _ _ zo) (.a rfl id <| .a rfl id <| .nil)) rfl rfl ?_; refine jx5 ?_; refine Tr.cnd rfl ?_ ?_
  ·intro h4
   try simp only [decide_eq_false_iff_not, Bool.or_eq_true, Bool.not_eq_true'] at h4
   refine jx8 ?_; exact Rts.res1 (fn := Tryz.f108) rfl (.i rfl (by unfold chkR; rw [if_neg zo, if_pos (fun hh => h4.elim (fun h => h hh.1) (fun h => h hh.2))]) <| .nil)
  ·intro h4
   try simp only [decide_eq_true_eq, Bool.not_eq_false', Bool.or_eq_false_iff] at h4
   refine jx9 ?_; exact Rts.res1 (fn := Tryz.f108) rfl (.i rfl (by unfold chkR; rw [if_neg zo, if_neg (fun hh => hh h4)]) <| .nil)

end Go.Fl

/- Numbers of a field: what is handed back is taken as it was. No program in sight. -/
namespace Go.Fl
open Go
theorem gL_neg : ∀ {cs : List Int} {g : Nat}, gL g (cs.map fun z => -z) = gL g cs
 | [], _ => rfl
 | c :: cs, g => by rw [List.map_cons, gL, gL, Int.natAbs_neg, gL_neg]
theorem ediv_neg_of {a g : Int} (h : g ∣ a) : -a / g = -(a / g) := by
 obtain ⟨q, rfl⟩ := h
 by_cases hg : g = 0
 ·subst hg; simp
 ·rw [Int.mul_ediv_cancel_left _ hg, ← Int.mul_neg, Int.mul_ediv_cancel_left _ hg]
theorem low_negc {cs : List Int} {d : Int} : loN (cs.map fun z => -z) d = ((loN cs d).1.map (fun z => -z), (loN cs d).2) := by
 have e : sgG d (cs.map fun z => -z) = sgG d cs := by unfold sgG; rw [gL_neg]
 unfold loN
 rw [e, List.map_map, List.map_map]
 refine Prod.ext (List.map_congr_left fun c hc => ?_) rfl
 exact ediv_neg_of (sgG_dvd (.inr hc))
theorem low_low {cs : List Int} {d : Int} (hd : d ≠ 0) : loN (loN cs d).1 (loN cs d).2 = loN cs d := by
 have h2 := low_pos (cs := cs) hd
 refine low_eq zo hd ?_
 show ((cs.map fun c => c / sgG d cs).map fun c => c * d) = cs.map fun c => c * (d / sgG d cs)
 rw [List.map_map]
 refine List.map_congr_left fun c hc => ?_
 obtain ⟨q, hq⟩ := sgG_dvd (d := d) (cs := cs) (.inr hc)
 obtain ⟨t, ht⟩ := sgG_dvd (d := d) (cs := cs) (.inl rfl)
 have h0 := sgG_ne (cs := cs) hd
 show c / sgG d cs * d = c * (d / sgG d cs)
 have e1 : c / sgG d cs = q := by rw [congrArg (· / sgG d cs) hq]; exact Int.mul_ediv_cancel_left _ h0
 have e2 : d / sgG d cs = t := by rw [congrArg (· / sgG d cs) ht]; exact Int.mul_ediv_cancel_left _ h0
 rw [e1, e2]
 calc q * d = q * (sgG d cs * t) := by rw [← ht]
  _ = sgG d cs * q * t := by rw [← Int.mul_assoc, Int.mul_comm q]
  _ = c * t := by rw [← hq]
abbrev NvT := List Int × Int
structure RedN (p : List Int) (v : NvT) : Prop where
 len : v.1.length = 4
 pos : 0 < v.2
 hi : ∀ i, p.length - 1 ≤ i → nth v.1 i = 0
 loN : loN v.1 v.2 = v
theorem zero_ediv {g : Int} : (0 : Int) / g = 0 := by simp
theorem low_hi {cs : List Int} {d : Int} {i : Nat} (h : nth cs i = 0) : nth (loN cs d).1 i = 0 := by
 by_cases hl : i < cs.length
 ·rw [nth_low hl, h, zero_ediv]
 ·rw [nth_out (by rw [low_len]; omega)]; rfl
theorem low_RedN {p cs : List Int} {d : Int} (hl : cs.length = 4) (hd : d ≠ 0) (h : ∀ i, p.length - 1 ≤ i → nth cs i = 0) : RedN p (loN cs d) := ⟨low_len.trans hl, low_pos hd, fun i hi => low_hi (h i hi), low_low hd⟩
theorem take_RedN {p : List Int} {x : List (List Int) × List Int} (_ : PolOk p) : RedN p (takeN p x) := low_RedN pad_len denN_ne fun i hi => by
 by_cases h : i < 4
 ·rw [nth_pad h, nth_out (by rw [red_len]; exact hi)]; rfl
 ·rw [nth_out (by rw [pad_len]; omega)]; rfl
theorem add_RedN {p : List Int} {x y : NvT} (hx : RedN p x) (hy : RedN p y) : RedN p (adV x y) := low_RedN tab_len (by have := Int.mul_pos hx.pos hy.pos; omega) fun i hi => by
 by_cases h : i < 4
 ·rw [nth_tab h, hx.hi i hi, hy.hi i hi]; simp
 ·rw [nth_out (by rw [tab_len]; omega)]; rfl
def negV (v : NvT) : NvT := (v.1.map (fun z => -z), v.2)
def subV (x y : NvT) : NvT := adV x (negV y)
theorem nth_neg {xs : List Int} {i : Nat} : nth (xs.map fun z => -z) i = -nth xs i := by
 by_cases h : i < xs.length
 ·simp [nth, h]
 ·rw [nth_out (by rw [List.length_map]; omega), nth_out zo]; rfl
theorem neg_RedN {p : List Int} {x : NvT} (hx : RedN p x) : RedN p (negV x) := by
 refine ⟨by show (x.1.map _).length = 4; rw [List.length_map, hx.len], hx.pos, fun i hi => by show nth (x.1.map _) i = 0; rw [nth_neg, hx.hi i hi]; rfl, ?_⟩
 show loN (x.1.map fun z => -z) x.2 = negV x
 rw [low_negc, hx.loN]; rfl
theorem sub_RedN {p : List Int} {x y : NvT} (hx : RedN p x) (hy : RedN p y) : RedN p (subV x y) := add_RedN hx (neg_RedN hy)
theorem NBd.mono {j k : Nat} {v : NvT} (h : NBd j v) (hjk : j ≤ k) : NBd k v := ⟨fun i => Nat.le_trans (h.c i) hjk, Nat.le_trans h.d hjk, h.pos, h.len⟩
theorem trim_app {xs : List Int} : ∃ k, xs = trimL xs ++ List.replicate k 0 ∧ xs.length = (trimL xs).length + k := by
 induction xs with
 | nil => exact ⟨0, rfl, rfl⟩
 | cons x xs ih =>
  obtain ⟨k, h1, h2⟩ := ih
  simp only [trimL]
  split
  ·rename_i h
   obtain ⟨q1, q2⟩ : trimL xs = [] ∧ x = 0 := by first | exact h | simpa using h | exact ⟨by assumption, by assumption⟩
   rw [q1] at h1 h2
   refine ⟨k + 1, ?_, by simp at h2 ⊢; omega⟩
   rw [List.nil_append, List.replicate_succ, q2]
   rw [List.nil_append] at h1
   exact congrArg _ h1
  ·exact ⟨k, by rw [List.cons_append, ← h1], by simp only [List.length_cons]; omega⟩
theorem nth_trim {xs : List Int} {i : Nat} : nth (trimL xs) i = nth xs i := by
 obtain ⟨k, h1, _⟩ := trim_app (xs := xs)
 conv => rhs; rw [h1]
 rw [nth_app0]
 split
 ·rfl
 ·rw [nth_out zo]; rfl
theorem trim_len_le {xs : List Int} {n : Nat} (h : ∀ i, n ≤ i → nth xs i = 0) : (trimL xs).length ≤ n := by
 refine Classical.byContradiction fun hn => ?_
 have hne : trimL xs ≠ [] := fun e => by rw [e] at hn; simp at hn
 have hl := trim_last hne
 have := h ((trimL xs).length - 1) zo
 rw [← nth_trim] at this
 refine hl ?_
 rw [List.getLast_eq_getElem]
 have hlt : (trimL xs).length - 1 < (trimL xs).length := by omega
 simpa [nth, List.getD, List.getElem?_eq_getElem hlt] using this
theorem map_val {xs : List Int} : ((xs.map lstZ).map val) = xs := by
 rw [List.map_map]
 conv => rhs; rw [← List.map_id xs]
 exact List.map_congr_left fun c _ => lst_val c
theorem take_give {p : List Int} {v : NvT} (hv : RedN p v) : takeN p (giveN v) = v := by
 unfold takeN giveN
 show loN (pad p (((trimL v.1).map lstZ).map val)) (denN (lstZ v.2)) = v
 have h0 := hv.pos
 rw [map_val, show denN (lstZ v.2) = v.2 by unfold denN; rw [lst_val, if_neg zo]]
 have e : pad p (trimL v.1) = v.1 := by
  unfold pad
  rw [red_short rfl (trim_len_le hv.hi)]
  conv => rhs; rw [tab_nth hv.len]
  refine tab_congr fun i _ => ?_
  rw [nth_app0, nth_trim]
  split
  ·rfl
  ·rw [← nth_trim, nth_out zo]; rfl
 rw [e, hv.loN]
theorem give_NumOk {v : NvT} {k : Nat} (hv : NBd k v) : NumOk k (giveN v) := by
 refine ⟨?_, fun i => ?_, lst_in _, by show (lstZ v.2).length ≤ k; rw [lst_len]; exact hv.d⟩
 ·show ((trimL v.1).map lstZ).length ≤ 6
  have := trim_len (xs := v.1)
  rw [List.length_map]
  have := hv.len
  omega
 ·show InI (nth ((trimL v.1).map lstZ) i) ∧ (nth ((trimL v.1).map lstZ) i).length ≤ k
  have e : nth ((trimL v.1).map lstZ) i = lstZ (nth v.1 i) := by
   rw [← nth_trim]
   by_cases h : i < (trimL v.1).length
   ·simp [nth, h]
   ·rw [nth_out (by rw [List.length_map]; omega), nth_out zo]; rfl
  rw [e]
  exact ⟨lst_in _, by rw [lst_len]; exact hv.c i⟩
def intV (n : Int) : NvT := ([n, 0, 0, 0], 1)
theorem sgG_one {cs : List Int} : sgG 1 cs = 1 := by
 have h1 := gL_le (c := cs) (g := 1) zo
 have h2 := gL_pos (cs := cs) (g := 1) zo
 unfold sgG
 rw [if_neg zo]
 show ((gL 1 cs : Nat) : Int) = 1
 omega
theorem low_one {cs : List Int} : loN cs 1 = (cs, 1) := by
 unfold loN
 rw [sgG_one]
 simp
theorem int_RedN {p : List Int} (hp : PolOk p) (n : Int) : RedN p (intV n) := by
 refine ⟨rfl, by show (0 : Int) < 1; omega, fun i hi => ?_, low_one⟩
 have := hp.1.1
 show nth [n, 0, 0, 0] i = 0
 match i, hi with
 | 0, h => omega
 | 1, _ => rfl
 | 2, _ => rfl
 | 3, _ => rfl
 | i + 4, _ => rw [nth_out (by simp)]; rfl
theorem int_NBd {n : Int} (hn : -9223372036854775808 ≤ n ∧ n ≤ 9223372036854775807) : NBd 3 (intV n) := ⟨fun i => dl_four (k := 0) (dl_int hn) i, by have := dl_int (n := 1) zo; exact this, by show (0 : Int) < 1; omega, rfl⟩
theorem add_int {m n : Int} : adV (intV m) (intV n) = intV (m + n) := by
 unfold adV intV
 rw [show (1 : Int) * 1 = 1 by rfl, low_one]
 simp [tab, List.range, List.range.loop, nth]
theorem sub_int {m n : Int} : subV (intV m) (intV n) = intV (m - n) := by
 have e : negV (intV n) = intV (-n) := by simp [negV, intV]
 unfold subV
 rw [e, add_int, Int.sub_eq_add_neg]
end Go.Fl

/- Places of intervals, and what is computed of an exchange. No program in sight. -/
namespace Go.Fl
open Go
def ptV (ls : List NvT) (row : List Int) : Nat → NvT
 | 0 => intV 0
 | k + 1 => adV (ptV ls row k) (nth ls (nth row k).toNat)
def plP (ls : List NvT) (row : List Int) (k : Nat) : List (List (List Int) × List Int) := tab row.length fun a => if row.idxOf (a : Int) < k then giveN (ptV ls row (row.idxOf (a : Int))) else ([], [])
def plV (ls : List NvT) (row : List Int) : List NvT := tab row.length fun a => ptV ls row (row.idxOf (a : Int))
def totV (ls : List NvT) (row : List Int) : NvT := ptV ls row row.length
def awV (r : List Int × List Int) (ls : List NvT) (k : Nat) : List NvT := tab k fun a => subV (nth (plV ls r.2) a) (nth (plV ls r.1) a)
theorem plP_zero {ls : List NvT} {row : List Int} : plP ls row 0 = List.replicate row.length ([], []) := by
 unfold plP
 rw [tab_congr (G := fun _ => ([], [])) fun a _ => by simp]
 simp [tab, List.map_const']
theorem idx_pm {row : List Int} {n k : Nat} (h : pmR row n) (hk : k < row.length) : row.idxOf (nth row k) = k := idxOf_nth hk fun i hi e => by
 have := nodup_nth h.2.1 zo hk e
 omega
theorem plP_succ {ls : List NvT} {row : List Int} {n k : Nat} (h : pmR row n) (hk : k < row.length) : (plP ls row k).set (nth row k).toNat (giveN (ptV ls row k)) = plP ls row (k + 1) := by
 have hr := h.1 k hk
 have hl := h.2.2
 unfold plP
 rw [tab_set]
 refine tab_congr fun a ha => ?_
 by_cases e : a = (nth row k).toNat
 ·subst e
  have hi : row.idxOf (((nth row k).toNat : Nat) : Int) = k := by rw [show (((nth row k).toNat : Nat) : Int) = nth row k by omega]; exact idx_pm h hk
  rw [if_pos rfl, hi, if_pos zo]
 ·have hne : row.idxOf (a : Int) ≠ k := fun hi => e (by
   obtain ⟨j, hj, hja⟩ := perm_mem h.2.1 h.1 h.2.2 (x := (a : Int)) zo zo
   have := idx_pm h (k := j) zo
   rw [hja, hi] at this
   subst this
   omega)
  rw [if_neg e]
  by_cases h1 : row.idxOf (a : Int) < k
  ·rw [if_pos h1, if_pos zo]
  ·rw [if_neg h1, if_neg zo]
theorem plP_end {ls : List NvT} {row : List Int} {n : Nat} (h : pmR row n) : plP ls row row.length = (plV ls row).map giveN := by
 unfold plP plV
 simp only [tab, List.map_map]
 refine List.map_congr_left fun a ha => ?_
 have ha : a < row.length := List.mem_range.1 ha
 have hl := h.2.2
 obtain ⟨j, hj, hja⟩ := perm_mem h.2.1 h.1 h.2.2 (x := (a : Int)) zo zo
 have hm : (a : Int) ∈ row := by rw [← hja]; exact nth_mem zo
 show (if _ then _ else _) = giveN (ptV ls row (row.idxOf (a : Int)))
 rw [if_pos (List.idxOf_lt_length_of_mem hm)]
def HB (D : Int) (M : Nat) (v : NvT) : Prop := ∃ cs : List Int, cs.length = 4 ∧ v = loN cs D ∧ ∀ i, (nth cs i).natAbs ≤ M
theorem low_cross {cs : List Int} {D : Int} (hD : D ≠ 0) (i : Nat) : nth (loN cs D).1 i * D = nth cs i * (loN cs D).2 := by
 by_cases h : i < cs.length
 ·rw [nth_low h]
  obtain ⟨q, hq⟩ := sgG_dvd (d := D) (cs := cs) (.inr (nth_mem' h))
  obtain ⟨t, ht⟩ := sgG_dvd (d := D) (cs := cs) (.inl rfl)
  have h0 := sgG_ne (cs := cs) hD
  show nth cs i / sgG D cs * D = nth cs i * (D / sgG D cs)
  have e1 : nth cs i / sgG D cs = q := by rw [congrArg (· / sgG D cs) hq]; exact Int.mul_ediv_cancel_left _ h0
  have e2 : D / sgG D cs = t := by rw [congrArg (· / sgG D cs) ht]; exact Int.mul_ediv_cancel_left _ h0
  rw [e1, e2]
  calc q * D = q * (sgG D cs * t) := by rw [← ht]
   _ = sgG D cs * q * t := by rw [← Int.mul_assoc, Int.mul_comm q]
   _ = nth cs i * t := by rw [← hq]
 ·rw [nth_out (by rw [low_len]; omega), nth_out zo]
  show (0 : Int) * D = 0 * _
  rw [Int.zero_mul, Int.zero_mul]
theorem tab_mul {F : Nat → Int} {k : Nat} {m : Int} : (tab k F).map (fun c => c * m) = tab k fun i => F i * m := by simp [tab]
theorem HB.add {D : Int} {M M' : Nat} {x y : NvT} (hD : 0 < D) (hx : HB D M x) (hy : HB D M' y) : HB D (M + M') (adV x y) := by
 obtain ⟨cs, h1, rfl, h3⟩ := hx
 obtain ⟨cs', h1', rfl, h3'⟩ := hy
 have hD0 : D ≠ 0 := by omega
 refine ⟨tab 4 fun i => nth cs i + nth cs' i, tab_len, ?_, fun i => ?_⟩
 ·have p1 := low_pos (cs := cs) hD0
  have p2 := low_pos (cs := cs') hD0
  have p3 := Int.mul_pos p1 p2
  refine low_eq zo hD0 ?_
  rw [tab_mul, tab_mul]
  refine tab_congr fun i _ => ?_
  have e1 := low_cross (cs := cs) hD0 i
  have e2 := low_cross (cs := cs') hD0 i
  generalize nth (loN cs D).1 i = a at *
  generalize nth (loN cs' D).1 i = b at *
  generalize (loN cs D).2 = c at *
  generalize (loN cs' D).2 = d at *
  generalize nth cs i = u at *
  generalize nth cs' i = v at *
  calc (a * d + b * c) * D = (a * D) * d + (b * D) * c := by rw [Int.add_mul, Int.mul_assoc, Int.mul_comm d D, ← Int.mul_assoc, Int.mul_assoc b, Int.mul_comm c D, ← Int.mul_assoc b]
   _ = u * c * d + v * d * c := by rw [e1, e2]
   _ = (u + v) * (c * d) := by rw [Int.add_mul, Int.mul_assoc, Int.mul_assoc v, Int.mul_comm d c]
 ·by_cases h : i < 4
  ·rw [nth_tab h]; have := h3 i; have := h3' i; omega
  ·rw [nth_out (by rw [tab_len]; omega)]; show (0 : Int).natAbs ≤ _; omega
theorem HB.neg {D : Int} {M : Nat} {x : NvT} (hx : HB D M x) : HB D M (negV x) := by
 obtain ⟨cs, h1, rfl, h3⟩ := hx
 refine ⟨cs.map fun z => -z, by rw [List.length_map, h1], low_negc.symm, fun i => ?_⟩
 rw [nth_neg, Int.natAbs_neg]
 exact h3 i
theorem HB.sub {D : Int} {M M' : Nat} {x y : NvT} (hD : 0 < D) (hx : HB D M x) (hy : HB D M' y) : HB D (M + M') (subV x y) := hx.add hD hy.neg
theorem HB.mono {D : Int} {M M' : Nat} {x : NvT} (hx : HB D M x) (h : M ≤ M') : HB D M' x := let ⟨cs, h1, h2, h3⟩ := hx; ⟨cs, h1, h2, fun i => Nat.le_trans (h3 i) h⟩
theorem HB.nbd {D : Int} {M k : Nat} {x : NvT} (hx : HB D M x) (hD : 0 < D) (h1 : dl D ≤ k) (h2 : dl (M : Int) ≤ k) : NBd k x := by
 obtain ⟨cs, l, rfl, h3⟩ := hx
 exact low_NBd (fun i => Nat.le_trans (digN_len_le (h3 i)) h2) h1 zo l
theorem HB.scale {D m : Int} {M : Nat} {x : NvT} (hx : HB D M x) (hD : 0 < D) (hm : 0 < m) : HB (D * m) (M * m.natAbs) x := by
 obtain ⟨cs, l, rfl, h3⟩ := hx
 refine ⟨cs.map fun c => c * m, by rw [List.length_map, l], (low_scale zo zo).symm, fun i => ?_⟩
 by_cases h : i < cs.length
 ·have e : nth (cs.map fun c => c * m) i = nth cs i * m := by simp [nth, h]
  rw [e, Int.natAbs_mul]
  exact Nat.mul_le_mul_right _ (h3 i)
 ·rw [nth_out (by rw [List.length_map]; omega)]; show (0 : Int).natAbs ≤ _; omega
theorem HB.zero {D : Int} (hD : 0 < D) : HB D 0 (intV 0) := by
 refine ⟨[0, 0, 0, 0], rfl, ?_, fun i => ?_⟩
 ·have : intV 0 = loN [0, 0, 0, 0] 1 := low_one.symm
  rw [this]
  refine low_eq (by decide) zo ?_
  simp
 ·match i with
  | 0 => exact Nat.le_refl _
  | 1 => exact Nat.le_refl _
  | 2 => exact Nat.le_refl _
  | 3 => exact Nat.le_refl _
  | i + 4 => rw [nth_out (by simp)]; exact Nat.le_refl _
theorem HB.self {p : List Int} {v : NvT} {M : Nat} (h : RedN p v) (hM : ∀ i, (nth v.1 i).natAbs ≤ M) : HB v.2 M v := ⟨v.1, h.len, h.loN.symm, hM⟩
theorem natAbs_bd {v : NvT} {k : Nat} (h : NBd k v) : ∃ M : Nat, dl (M : Int) ≤ k ∧ ∀ i, (nth v.1 i).natAbs ≤ M := by
 refine ⟨max (max (nth v.1 0).natAbs (nth v.1 1).natAbs) (max (nth v.1 2).natAbs (nth v.1 3).natAbs), ?_, fun i => ?_⟩
 ·have e : ∀ z : Int, dl ((z.natAbs : Nat) : Int) = dl z := fun z => by unfold dl; rw [Int.natAbs_natCast]
  have h0 := h.c 0; have h1 := h.c 1; have h2 := h.c 2; have h3 := h.c 3
  rw [← e] at h0 h1 h2 h3
  rcases Nat.le_total (nth v.1 0).natAbs (nth v.1 1).natAbs with q1 | q1 <;> rcases Nat.le_total (nth v.1 2).natAbs (nth v.1 3).natAbs with q2 | q2 <;> simp only [Nat.max_eq_left q1, Nat.max_eq_right q1, Nat.max_eq_left q2, Nat.max_eq_right q2] <;> rw [Nat.max_def] <;> split <;> assumption
 ·by_cases hi : i < 4
  ·rcases (show i = 0 ∨ i = 1 ∨ i = 2 ∨ i = 3 by omega) with rfl | rfl | rfl | rfl <;> omega
  ·rw [nth_out (by rw [h.len]; omega)]; show (0 : Int).natAbs ≤ _; omega
theorem HB.all {p : List Int} {k : Nat} : ∀ {ls : List NvT}, (∀ v ∈ ls, RedN p v ∧ NBd k v) → ∃ (D : Int) (M : Nat), 0 < D ∧ dl D ≤ ls.length * k + 1 ∧ dl (M : Int) ≤ ls.length * k + 1 ∧ ∀ v ∈ ls, HB D M v
 | [], _ => ⟨1, 1, by omega, by rw [List.length_nil, Nat.zero_mul]; exact dl_small zo zo, by rw [List.length_nil, Nat.zero_mul]; exact dl_small zo zo, fun v h => by cases h⟩
 | v :: ls, h => by
  obtain ⟨D, M, h1, h2, h3, h4⟩ := HB.all (ls := ls) fun x hx => h x (List.mem_cons_of_mem _ hx)
  obtain ⟨hr, hb⟩ := h v List.mem_cons_self
  obtain ⟨Mv, m1, m2⟩ := natAbs_bd hb
  have hs := HB.self hr m2
  have e : (v :: ls).length * k + 1 = ls.length * k + 1 + k := by rw [List.length_cons, Nat.succ_mul]; omega
  have d1 := dl_mul D v.2
  have d2 := hb.d
  have d3 := dl_mul (M : Int) v.2
  have d4 := dl_mul (Mv : Int) D
  have hv : ((v.2.natAbs : Nat) : Int) = v.2 := by have := hb.pos; omega
  have hDa : ((D.natAbs : Nat) : Int) = D := by omega
  refine ⟨D * v.2, max (M * v.2.natAbs) (Mv * D.natAbs), Int.mul_pos h1 hb.pos, by omega, ?_, fun x hx => ?_⟩
  ·rw [Nat.max_def]
   split
   ·rw [Int.natCast_mul, hDa]; omega
   ·rw [Int.natCast_mul, hv]; omega
  ·rcases List.mem_cons.1 hx with rfl | hx
   ·have := hs.scale hb.pos h1
    rw [Int.mul_comm] at this
    exact this.mono (Nat.le_max_right _ _)
   ·exact ((h4 x hx).scale h1 hb.pos).mono (Nat.le_max_left _ _)
structure LenOk (p : List Int) (D : Int) (M n : Nat) (ls : List NvT) : Prop where
 len : ls.length = n
 red : ∀ a, a < n → RedN p (nth ls a)
 hb : ∀ a, a < n → HB D M (nth ls a)
 pos : 0 < D
 bD : dl D ≤ 200
 bM : dl ((100000 * M : Nat) : Int) ≤ 200
theorem LenOk.nbd {p : List Int} {D : Int} {M n m : Nat} {ls : List NvT} (h : LenOk p D M n ls) {v : NvT} (hv : HB D (m * M) v) (hm : m ≤ 100000) : NBd 200 v :=
 hv.nbd h.pos h.bD (Nat.le_trans (digN_len_le (by rw [Int.natAbs_natCast, Int.natAbs_natCast]; exact Nat.mul_le_mul_right _ hm)) h.bM)
theorem LenOk.one {p : List Int} {D : Int} {M n a : Nat} {ls : List NvT} (h : LenOk p D M n ls) (ha : a < n) : NBd 200 (nth ls a) := h.nbd (m := 1) (by rw [Nat.one_mul]; exact h.hb a ha) zo
theorem pt_ok {p : List Int} {D : Int} {M n : Nat} {ls : List NvT} {row : List Int} (hp : PolOk p) (h : LenOk p D M n ls) (hr : pmR row n) : ∀ k, k ≤ n → RedN p (ptV ls row k) ∧ HB D (k * M) (ptV ls row k)
 | 0, _ => ⟨int_RedN hp 0, by rw [Nat.zero_mul]; exact HB.zero h.pos⟩
 | k + 1, hk => by
  obtain ⟨h1, h2⟩ := pt_ok hp h hr k zo
  have hrk := hr.1 k (by have := hr.2.2; omega)
  refine ⟨add_RedN h1 (h.red _ zo), ?_⟩
  rw [Nat.succ_mul]
  exact h2.add h.pos (h.hb _ zo)
theorem nth_mapG {xs : List NvT} {i : Nat} (h : i < xs.length) : nth (xs.map giveN) i = giveN (nth xs i) := by simp [nth, h]
theorem plV_len {ls : List NvT} {row : List Int} : (plV ls row).length = row.length := tab_len
theorem plV_ok {p : List Int} {D : Int} {M n : Nat} {ls : List NvT} {row : List Int} (hp : PolOk p) (h : LenOk p D M n ls) (hr : pmR row n) {a : Nat} (ha : a < n) : RedN p (nth (plV ls row) a) ∧ HB D (n * M) (nth (plV ls row) a) := by
 have hl := hr.2.2
 obtain ⟨j, hj, hja⟩ := perm_mem hr.2.1 hr.1 hl (x := (a : Int)) zo zo
 have hi : row.idxOf (a : Int) = j := by rw [← hja]; exact idx_pm hr zo
 unfold plV
 rw [nth_tab zo, hi]
 obtain ⟨h1, h2⟩ := pt_ok hp h hr j zo
 exact ⟨h1, h2.mono (Nat.mul_le_mul_right _ zo)⟩
theorem nth_mapT {p : List Int} {xs : List (List (List Int) × List Int)} {a : Nat} (h : a < xs.length) : nth (xs.map (takeN p)) a = takeN p (nth xs a) := by simp [nth, h]
theorem take_LenOk {p : List Int} {xs : List (List (List Int) × List Int)} {n : Nat} (hp : PolOk p) (hl : xs.length = n) (hn : n ≤ 8) (h : ∀ a, a < n → NumOk 2 (nth xs a)) {more : List NvT} (hm : more.length ≤ 2) (hmo : ∀ v ∈ more, RedN p v ∧ NBd 17 v) : ∃ (D : Int) (M : Nat), LenOk p D M n (xs.map (takeN p)) ∧ ∀ v ∈ more, HB D M v := by
 have key : ∀ v ∈ xs.map (takeN p) ++ more, RedN p v ∧ NBd 17 v := fun v hv => by
  rcases List.mem_append.1 hv with hv | hv
  ·obtain ⟨x, hx, rfl⟩ := List.mem_map.1 hv
   obtain ⟨i, hi, rfl⟩ := List.mem_iff_getElem.1 hx
   have e : nth xs i = xs[i] := by simp [nth, hi]
   rw [← e]
   exact ⟨take_RedN hp, take_NBd hp (h i zo)⟩
  ·exact hmo v hv
 obtain ⟨D, M, h1, h2, h3, h4⟩ := HB.all key
 have hll : (xs.map (takeN p) ++ more).length ≤ 10 := by rw [List.length_append, List.length_map]; omega
 have hk := Nat.mul_le_mul_right 17 hll
 have e : ∀ a, a < n → nth (xs.map (takeN p)) a ∈ xs.map (takeN p) ++ more := fun a ha => List.mem_append_left _ (by rw [nth_mapT zo]; exact List.mem_map_of_mem (by simp [nth, hl, ha]))
 refine ⟨D, M, ⟨by rw [List.length_map, hl], fun a ha => (key _ (e a ha)).1, fun a ha => h4 _ (e a ha), h1, by omega, ?_⟩, fun v hv => h4 v (List.mem_append_right _ hv)⟩
 have d1 := dl_mul (100000 : Int) (M : Int)
 have d2 := dl_small (F := 100000) zo zo
 rw [show ((100000 * M : Nat) : Int) = 100000 * (M : Int) by omega]
 omega
end Go.Fl

/- Contracts: exchanges: places of intervals, the machine. -/
namespace Go.Fl
open Go Go.Proofs
open TrL renaming op → tO
open RunD renaming op → rO
set_option maxRecDepth 100000

abbrev ExT := FdT × List Int × List Int × List NumT
abbrev MacT := RlT × Ori × List NumT × List NumT × List NumT × List NumT × NumT
def eX : Enc ExT := eC (fun v : ExT => (v.1, v.2.1, v.2.2.1, v.2.2.2, ())) (eP eFd (eP (eL eI) (eP (eL eI) (eP (eL eNum) eU))))
instance {v : ExT} : CellsK (kRd eX v) [kRd (eL eI) (v.1.1), kI (v.1.2.1), kI (v.1.2.2.1), kI (v.1.2.2.2), kRd (eL eI) (v.2.1), kRd (eL eI) (v.2.2.1), kRd (eL eNum) (v.2.2.2)] := inferInstanceAs (CellsK (kRd (eC (fun v : ExT => (v.1, v.2.1, v.2.2.1, v.2.2.2, ())) (eP eFd (eP (eL eI) (eP (eL eI) (eP (eL eNum) eU))))) v) _)
instance {v : ExT} {tl : List Know} : EncCells eX v tl (kRd (eL eI) (v.1.1) :: kI (v.1.2.1) :: kI (v.1.2.2.1) :: kI (v.1.2.2.2) :: kRd (eL eI) (v.2.1) :: kRd (eL eI) (v.2.2.1) :: kRd (eL eNum) (v.2.2.2) :: tl) := inferInstanceAs (EncCells (eC (fun v : ExT => (v.1, v.2.1, v.2.2.1, v.2.2.2, ())) (eP eFd (eP (eL eI) (eP (eL eI) (eP (eL eNum) eU))))) v tl _)
instance {v : ExT} : Norm eX v (kRd eX v) := ⟨fun h => h⟩
instance {v : ExT} : FieldP eX v 0 eFd (v.1) 0 := inferInstanceAs (FieldP (eC (fun v : ExT => (v.1, v.2.1, v.2.2.1, v.2.2.2, ())) (eP eFd (eP (eL eI) (eP (eL eI) (eP (eL eNum) eU))))) v 0 _ _ _)
instance {v : ExT} : FieldP eX v 1 (eL eI) (v.2.1) 4 := inferInstanceAs (FieldP (eC (fun v : ExT => (v.1, v.2.1, v.2.2.1, v.2.2.2, ())) (eP eFd (eP (eL eI) (eP (eL eI) (eP (eL eNum) eU))))) v 1 _ _ _)
instance {v : ExT} : FieldP eX v 2 (eL eI) (v.2.2.1) 5 := inferInstanceAs (FieldP (eC (fun v : ExT => (v.1, v.2.1, v.2.2.1, v.2.2.2, ())) (eP eFd (eP (eL eI) (eP (eL eI) (eP (eL eNum) eU))))) v 2 _ _ _)
instance {v : ExT} : FieldP eX v 3 (eL eNum) (v.2.2.2) 6 := inferInstanceAs (FieldP (eC (fun v : ExT => (v.1, v.2.1, v.2.2.1, v.2.2.2, ())) (eP eFd (eP (eL eI) (eP (eL eI) (eP (eL eNum) eU))))) v 3 _ _ _)
instance {ks r : List Know} {f : FdT} {a b : List Int} {c : List NumT} [h : RdOf ks (eP eFd (eP (eL eI) (eP (eL eI) (eP (eL eNum) eU)))) (f, a, b, c, ()) r] : RdOf ks eX ((f, a, b, c)) r := ⟨fun h' => h.imp h'⟩
def eMac : Enc MacT := eC (fun v : MacT => (v.1, v.2.1, v.2.2.1, v.2.2.2.1, v.2.2.2.2.1, v.2.2.2.2.2.1, v.2.2.2.2.2.2, ())) (eP (ePtr eReal) (eP eO (eP (eL eNum) (eP (eL eNum) (eP (eL eNum) (eP (eL eNum) (eP eNum eU)))))))
instance {v : MacT} : CellsK (kRd eMac v) [kPtr eReal (v.1), kRd (eL eI) (v.2.1.1), kRd (eL eI) (v.2.1.2), kRd (eL eNum) (v.2.2.1), kRd (eL eNum) (v.2.2.2.1), kRd (eL eNum) (v.2.2.2.2.1), kRd (eL eNum) (v.2.2.2.2.2.1), kRd (eL (eL eI)) (v.2.2.2.2.2.2.1), kRd (eL eI) (v.2.2.2.2.2.2.2)] := inferInstanceAs (CellsK (kRd (eC (fun v : MacT => (v.1, v.2.1, v.2.2.1, v.2.2.2.1, v.2.2.2.2.1, v.2.2.2.2.2.1, v.2.2.2.2.2.2, ())) (eP (ePtr eReal) (eP eO (eP (eL eNum) (eP (eL eNum) (eP (eL eNum) (eP (eL eNum) (eP eNum eU)))))))) v) _)
instance {v : MacT} {tl : List Know} : EncCells eMac v tl (kPtr eReal (v.1) :: kRd (eL eI) (v.2.1.1) :: kRd (eL eI) (v.2.1.2) :: kRd (eL eNum) (v.2.2.1) :: kRd (eL eNum) (v.2.2.2.1) :: kRd (eL eNum) (v.2.2.2.2.1) :: kRd (eL eNum) (v.2.2.2.2.2.1) :: kRd (eL (eL eI)) (v.2.2.2.2.2.2.1) :: kRd (eL eI) (v.2.2.2.2.2.2.2) :: tl) := inferInstanceAs (EncCells (eC (fun v : MacT => (v.1, v.2.1, v.2.2.1, v.2.2.2.1, v.2.2.2.2.1, v.2.2.2.2.2.1, v.2.2.2.2.2.2, ())) (eP (ePtr eReal) (eP eO (eP (eL eNum) (eP (eL eNum) (eP (eL eNum) (eP (eL eNum) (eP eNum eU)))))))) v tl _)
instance {v : MacT} : Norm eMac v (kRd eMac v) := ⟨fun h => h⟩
instance {v : MacT} : FieldP eMac v 0 (ePtr eReal) (v.1) 0 := inferInstanceAs (FieldP (eC (fun v : MacT => (v.1, v.2.1, v.2.2.1, v.2.2.2.1, v.2.2.2.2.1, v.2.2.2.2.2.1, v.2.2.2.2.2.2, ())) (eP (ePtr eReal) (eP eO (eP (eL eNum) (eP (eL eNum) (eP (eL eNum) (eP (eL eNum) (eP eNum eU)))))))) v 0 _ _ _)
instance {v : MacT} : FieldP eMac v 1 eO (v.2.1) 1 := inferInstanceAs (FieldP (eC (fun v : MacT => (v.1, v.2.1, v.2.2.1, v.2.2.2.1, v.2.2.2.2.1, v.2.2.2.2.2.1, v.2.2.2.2.2.2, ())) (eP (ePtr eReal) (eP eO (eP (eL eNum) (eP (eL eNum) (eP (eL eNum) (eP (eL eNum) (eP eNum eU)))))))) v 1 _ _ _)
instance {v : MacT} : FieldP eMac v 2 (eL eNum) (v.2.2.1) 3 := inferInstanceAs (FieldP (eC (fun v : MacT => (v.1, v.2.1, v.2.2.1, v.2.2.2.1, v.2.2.2.2.1, v.2.2.2.2.2.1, v.2.2.2.2.2.2, ())) (eP (ePtr eReal) (eP eO (eP (eL eNum) (eP (eL eNum) (eP (eL eNum) (eP (eL eNum) (eP eNum eU)))))))) v 2 _ _ _)
instance {v : MacT} : FieldP eMac v 3 (eL eNum) (v.2.2.2.1) 4 := inferInstanceAs (FieldP (eC (fun v : MacT => (v.1, v.2.1, v.2.2.1, v.2.2.2.1, v.2.2.2.2.1, v.2.2.2.2.2.1, v.2.2.2.2.2.2, ())) (eP (ePtr eReal) (eP eO (eP (eL eNum) (eP (eL eNum) (eP (eL eNum) (eP (eL eNum) (eP eNum eU)))))))) v 3 _ _ _)
instance {v : MacT} : FieldP eMac v 4 (eL eNum) (v.2.2.2.2.1) 5 := inferInstanceAs (FieldP (eC (fun v : MacT => (v.1, v.2.1, v.2.2.1, v.2.2.2.1, v.2.2.2.2.1, v.2.2.2.2.2.1, v.2.2.2.2.2.2, ())) (eP (ePtr eReal) (eP eO (eP (eL eNum) (eP (eL eNum) (eP (eL eNum) (eP (eL eNum) (eP eNum eU)))))))) v 4 _ _ _)
instance {v : MacT} : FieldP eMac v 5 (eL eNum) (v.2.2.2.2.2.1) 6 := inferInstanceAs (FieldP (eC (fun v : MacT => (v.1, v.2.1, v.2.2.1, v.2.2.2.1, v.2.2.2.2.1, v.2.2.2.2.2.1, v.2.2.2.2.2.2, ())) (eP (ePtr eReal) (eP eO (eP (eL eNum) (eP (eL eNum) (eP (eL eNum) (eP (eL eNum) (eP eNum eU)))))))) v 5 _ _ _)
instance {v : MacT} : FieldP eMac v 6 eNum (v.2.2.2.2.2.2) 7 := inferInstanceAs (FieldP (eC (fun v : MacT => (v.1, v.2.1, v.2.2.1, v.2.2.2.1, v.2.2.2.2.1, v.2.2.2.2.2.1, v.2.2.2.2.2.2, ())) (eP (ePtr eReal) (eP eO (eP (eL eNum) (eP (eL eNum) (eP (eL eNum) (eP (eL eNum) (eP eNum eU)))))))) v 6 _ _ _)
instance {ks r : List Know} {rr : RlT} {o : Ori} {a b c d : List NumT} {t : NumT} [h : RdOf ks (eP (ePtr eReal) (eP eO (eP (eL eNum) (eP (eL eNum) (eP (eL eNum) (eP (eL eNum) (eP eNum eU))))))) (rr, o, a, b, c, d, t, ()) r] : RdOf ks eMac ((rr, o, a, b, c, d, t)) r := ⟨fun h' => h.imp h'⟩
instance : ZeroE eNum (.agg #[.slice none 0 0, .slice none 0 0]) ([], []) := ⟨fun _ => ⟨[.slice none 0 0], [.slice none 0 0], rfl, rd_nil, [.slice none 0 0], [], rfl, rd_nil, rfl⟩⟩
def mac (r : RlT) (o : Ori) (ls : List NvT) : MacT := (r, o, ls.map giveN, (plV ls o.1).map giveN, (plV ls o.2).map giveN, (awV o ls o.1.length).map giveN, giveN (totV ls o.1))
structure SgnC (r : RlT) (sg : NvT → Int) : Prop where
 sign : ∀ x, NumOk 250 x → Ct Tryz.prog 82 [kPtr eReal r, kRd eNum x] (kI (sg (takeN r.2.1 x)))
 cmp : ∀ x y, NumOk 250 x → NumOk 250 y → Ct Tryz.prog 83 [kPtr eReal r, kRd eNum x, kRd eNum y] (kI (sg (subV (takeN r.2.1 x) (takeN r.2.1 y))))
theorem ct_vAdd (r : RlT) (u v : NvT) (k : Nat) (hpo : PolOk r.2.1) (hu : RedN r.2.1 u) (hv : RedN r.2.1 v) (bu : NBd k u) (bv : NBd k v) (hk : k ≤ 100000) {x y : NumT} (hx : giveN u = x) (hy : giveN v = y) : Ct Tryz.prog 118 [kPtr eReal r, kRd eNum x, kRd eNum y] (kRd eNum (giveN (adV u v))) := by
 have h := ct_fAddN r (giveN u) (giveN v) k hpo (give_NumOk bu) (give_NumOk bv) hk
 rw [take_give hu, take_give hv, hx, hy] at h
 exact h
theorem ct_vSub (r : RlT) (u v : NvT) (k : Nat) (hpo : PolOk r.2.1) (hu : RedN r.2.1 u) (hv : RedN r.2.1 v) (bu : NBd k u) (bv : NBd k v) (hk : k ≤ 100000) {x y : NumT} (hx : giveN u = x) (hy : giveN v = y) : Ct Tryz.prog 116 [kPtr eReal r, kRd eNum x, kRd eNum y] (kRd eNum (giveN (subV u v))) := by
 have h := ct_fSubN r (giveN u) (giveN v) k hpo (give_NumOk bu) (give_NumOk bv) hk
 rw [take_give hu, take_give hv, hx, hy] at h
 exact h
theorem ct_rowsOf (x : ExT) : Ct Tryz.prog 114 [kRd eX x] (kRd eO (x.2.1, x.2.2.1)) := by
 refine Ct.mk Tryz.func114 rfl Tryz.ntmps114 rfl (fun w J => ?_); refine jx2 ?_; refine jb 1 rfl ?_; refine ja 2 ?_; refine jx8 ?_; refine tO (ok_build (fun hp => .cons rfl rfl rfl <| .cons rfl rfl rfl <| .nil)) rfl rfl ?_; refine jx4 ?_; exact Rts.resC1 (fn := Tryz.f114) rfl rfl (aggRd rfl (by rfl))

theorem ct_copied (r : Ori) (h1 : r.1.length ≤ 1000) (h2 : r.2.length ≤ 1000) : Ct Tryz.prog 101 [kRd eO r] (kRd eO r) := by
 refine Ct.mk Tryz.func101 rfl Tryz.ntmps101 rfl (fun w J => ?_); refine jx2 ?_; refine jb 1 rfl ?_; refine ja 2 ?_; refine jx3 ?_; refine Tr.draw 5 mixed (by kernel_rfl) ?_; refine jx2 ?_; refine rO (ok_call (fun hp => ct_cloneI _ zo) (.a rfl uu <| .nil)) rfl rfl ?_; refine jx3 ?_; refine tO (ok_call (fun hp => ct_cloneI _ zo) (.a rfl uu <| .nil)) rfl rfl ?_; refine tO (ok_build (fun hp => .cons rfl rfl rfl <| .cons rfl rfl rfl <| .nil)) rfl rfl ?_; refine jx4 ?_; exact Rts.resC1 (fn := Tryz.f101) rfl rfl (aggRd rfl (by rfl))

theorem ct_places (r : RlT) (ra rb : List Int) (ls : List NvT) (k1 k2 k3 k4 k5 : Know) [KDep k1 []] [KDep k2 []] [KDep k3 []] [KDep k4 []] [KDep k5 []] (row : List Int) (D : Int) (M n : Nat) (hpo : PolOk r.2.1) (hls : LenOk r.2.1 D M n ls) (hn : n ≤ 8) (hpm : pmR row n) : CtB Tryz.prog 115 (kOwn 0 0) [kRd (eL eI) row] (cBlk [kPtr eReal r, kRd (eL eI) ra, kRd (eL eI) rb, kRd (eL eNum) (ls.map giveN), k1, k2, k3, k4, k5]) (cBlk [kPtr eReal r, kRd (eL eI) ra, kRd (eL eI) rb, kRd (eL eNum) (ls.map giveN), k1, k2, k3, k4, k5]) (kTup [kRd (eL eNum) ((plV ls row).map giveN), kRd eNum (giveN (totV ls row))]) := by
 have hrl := hpm.2.2
 have hll := hls.len
 have hrk := hpm.1
 have hml : (ls.map giveN).length = n := by rw [List.length_map, hll]
 refine CtB.mk Tryz.func115 rfl Tryz.ntmps115 rfl (fun w J bb cap => ?_); refine jx3 ?_; refine ja 5 ?_; refine jx3 ?_; refine Tr.draw 5 mixed (by kernel_rfl) ?_; refine jx2 ?_; refine RunD.new (ok_makeN eNum 12 rfl uu rfl uu rfl rfl rfl (fun _ => zo)) rfl rfl rfl rfl ?_; refine jd (ct_fWhole 0 zo) ?_; refine RunD.new (ok_alloc 7) rfl rfl rfl rfl ?_; refine jx13 ?_
 refine Tr.for1 (σ := Nat) [⟨0, true, _, _⟩, ⟨5, true, _, _⟩, ⟨7, true, _, _⟩, ⟨14, true, _, _⟩, ⟨15, true, _, _⟩] [⟨0, _, _⟩, ⟨5, _, _⟩] (fun k => [⟨6, true, [12], kOsl 12 row.length⟩, ⟨16, true, [], kI (k : Int)⟩]) (fun k => [⟨12, [], cArr false 30 eNum (plP ls row k) row.length⟩, ⟨7, [], cBlk [kRd (eL (eL eI)) (giveN (ptV ls row k)).1, kRd (eL eI) (giveN (ptV ls row k)).2]⟩]) (fun k => k ≤ row.length) (fun k => k = row.length) (fun k => row.length - k) (0) zi (Ent.mk (.o rfl zi rfl <| .i rfl zi <| zk) (.a plP_zero.symm zi <| .e (by rfl) rfl <| zk) rfl) ?_ ?_
 ·intro k hR0
  refine jn ?_
  have hrk2 := hrk k
  have hpk := pt_ok hpo hls hpm k zo
  refine jx6 ?_; refine jq ?_ ?_
  ·intro h3
   refine jx20 ?_; refine Tr.draw 12 mixed (by kernel_rfl) ?_; refine jx1 ?_; refine rO (ok_nilB rfl uu) rfl rfl ?_; refine jx4 ?_; refine rO (ok_nilB rfl uu) rfl rfl ?_; refine jx6 ?_; refine tO (ok_call (fun hp => ct_vAdd r (ptV ls row k) (nth ls (nth row k).toNat) 200 hpo hpk.1 (hls.red _ zo) (hls.nbd hpk.2 zo) (hls.one zo) zo rfl (nth_mapG zo).symm) (.a rfl uu <| .se rfl uu rfl rfl <| .a rfl uu <| .nil)) rfl rfl ?_; refine jx8 ?_
   exact End.lp (k + 1) zi zo (Ent.mk (.o rfl zi rfl <| .i rfl zi <| zk) (.a (by rw [← plP_succ hpm zo]) zi <| .e (by rfl) rfl <| zk) rfl)
  ·intro h3
   replace h3 := Int.not_lt.1 h3
   refine jx4 ?_
   exact End.cut (k) zo (Ent.mk (.o rfl zi rfl <| .i rfl zi <| zk) (zk) rfl)
 ·rintro k hkn
  refine je ?_; refine jx2 ?_; refine Tr.frzBo 12 [6] rfl rfl ⟨rfl, trivial⟩ (by simp only [lenMax]; omega) rfl ?_; refine Tr.draw 3 mixed (by kernel_rfl) ?_; refine jx8 ?_; exact Rts.mutTC (fn := Tryz.f115) (t := 4) (a := 5) rfl rfl (.r rfl (by rw [hkn, plP_end hpm]) <| .nil) rfl rfl (aggRd rfl (by rw [hkn]; rfl))

end Go.Fl

/- Contracts: exchanges are opened; points of the interval. -/
namespace Go.Fl
open Go Go.Proofs
open TrL renaming op → tO
open RunD renaming op → rO
set_option maxRecDepth 100000

set_option maxHeartbeats 1000000 in
theorem ct_xopen (x : ExT) (r : RlT) (sg : NvT → Int) (D : Int) (M : Nat) (hop : Ct Tryz.prog 113 [kRd eFd x.1] (kTup [kPtr eReal r, kI 0])) (hpo : PolOk r.2.1) (hs : SgnC r sg) (v : RowsOk (x.2.1, x.2.2.1)) (hl : x.2.2.2.length = x.2.1.length) (hnm : ∀ a, a < x.2.1.length → NumOk 250 (nth x.2.2.2 a)) (hlo : LenOk r.2.1 D M x.2.1.length (x.2.2.2.map (takeN r.2.1))) (hpos : ∀ a, a < x.2.1.length → 0 < sg (takeN r.2.1 (nth x.2.2.2 a))) : Ct Tryz.prog 66 [kRd eX x] (kTup [kPtr eMac (mac r (x.2.1, x.2.2.1) (x.2.2.2.map (takeN r.2.1))), kI 0]) := by
 obtain ⟨ls, hls⟩ : ∃ ls, ls = x.2.2.2.map (takeN r.2.1) := ⟨_, rfl⟩
 rw [← hls] at hlo
 have hll := hlo.len
 have hle : x.2.1.length ≤ 8 := v.le
 have hle2 : x.2.2.1.length = x.2.1.length := v.len
 have hp1 : pmR x.2.1 x.2.1.length := v.p1
 have hp2 : pmR x.2.2.1 x.2.1.length := v.p2
 have hpl1 : ((plV ls x.2.1).map giveN).length = x.2.1.length := by rw [List.length_map, plV_len]
 have hpl2 : ((plV ls x.2.2.1).map giveN).length = x.2.1.length := by rw [List.length_map, plV_len, hle2]
 rw [← hls]
 have hnk : ∀ k, k < x.2.1.length → nth ls k = takeN r.2.1 (nth x.2.2.2 k) := fun k hk => by rw [hls]; simp [nth, hl, hk]
 refine Ct.mk Tryz.func66 rfl Tryz.ntmps66 rfl (fun w J => ?_); refine jx2 ?_; refine jb 1 rfl ?_; refine jx8 ?_; refine jc hop ?_; refine jx14 ?_; refine Tr.cnd rfl ?_ ?_
 ·intro h2
  exact absurd h2 (by decide)
 ·intro h2
  refine jx6 ?_; refine tO (ok_call (fun hp => ct_rowsOf _) (.s rfl uu rfl <| .nil)) rfl rfl ?_; refine tO (ok_call (fun hp => ct_eCheckRows _) (.a rfl uu <| .nil)) rfl rfl ?_; refine jx9 ?_; refine Tr.cnd rfl ?_ ?_
  ·intro h5
   rw [chkR_of v] at h5; exact absurd h5 (by decide)
  ·intro h5
   refine jx14 ?_; refine jq ?_ ?_
   ·intro h7
    omega
   ·intro h7
    replace h7 := Classical.not_not.1 h7
    refine jx6 ?_; refine tO (ok_call (fun hp => ct_rowsOf _) (.s rfl uu rfl <| .nil)) rfl rfl ?_; refine tO (ok_call (fun hp => ct_copied _ (by show x.2.1.length ≤ 1000; omega) (by show x.2.2.1.length ≤ 1000; omega)) (.a rfl uu <| .nil)) rfl rfl ?_; refine tO (ok_build (fun hp => .cons rfl rfl rfl <| .cons rfl rfl rfl <| .nil)) rfl rfl ?_; refine jb 38 rfl ?_; refine jx12 ?_; refine Tr.growC 38 3 139 rfl (ks' := [_, _, _, kOsl 139 0, _, _, _, _, _]) rfl rfl 30 eNum rfl (.cons inferInstance rfl <| .cons inferInstance rfl <| .cons inferInstance rfl <| .cons inferInstance rfl <| .cons inferInstance rfl <| .cons inferInstance rfl <| .cons inferInstance rfl <| .cons inferInstance rfl <| .cons inferInstance rfl <| inferInstance) ?_
    refine Tr.for1 (σ := Nat) [⟨1, true, _, _⟩, ⟨4, true, _, _⟩, ⟨7, true, _, _⟩, ⟨40, true, _, _⟩, ⟨41, true, _, _⟩] [⟨1, _, _⟩] (fun k => [⟨42, true, [], kI (k : Int)⟩]) (fun k => [⟨38, [139], cBlk [kPtr eReal r, kRd (eL eI) x.2.1, kRd (eL eI) x.2.2.1, kOsl 139 k, kDet (.slice none 0 0), kDet (.slice none 0 0), kDet (.slice none 0 0), kDet (.slice none 0 0), kDet (.slice none 0 0)]⟩, ⟨139, [], cArr true 30 eNum ((ls.take k).map giveN) k⟩]) (fun k => k ≤ x.2.1.length) (fun k => k = x.2.1.length) (fun k => x.2.1.length - k) (0) zi (Ent.mk (.i rfl zi <| zk) (.e (by rfl) rfl <| .a (by rfl) zi <| zk) rfl) ?_ ?_
    ·intro k hR0
     refine jn ?_; refine jx6 ?_; refine jq ?_ ?_
     ·intro h11
      refine jx8 ?_; refine ja 9 ?_; refine jx8 ?_; refine tO (ok_call (fun hp => hs.sign _ (hnm k zo)) (.a rfl uu <| .s rfl uu rfl <| .nil)) rfl rfl ?_; refine jx3 ?_; refine jq ?_ ?_
      ·intro h13
       have := hpos k zo; omega
      ·intro h13
       replace h13 := Int.not_le.1 h13
       refine jx2 ?_; refine Tr.drawM (m := 9) mixed (by kernel_rfl) rfl (by kernel_rfl) (by kernel_rfl) (by kernel_rfl) ?_; refine jx2 ?_; refine rO (ok_nilO rfl uu) rfl rfl ?_; refine jx4 ?_; refine rO (ok_call (fun hp => ct_fNormalN r _ _ hpo (hnm k zo) zo) (.a rfl uu <| .s rfl uu rfl <| .nil)) rfl rfl ?_; refine RunD.new (ok_bsl eNum 58 (fun hp => .cons rfl <| .nil) rfl rfl rfl rfl) rfl rfl rfl rfl ?_; refine jx1 ?_; refine TrL.wkC 38 (.k <| .k <| .k <| .any <| .k <| .k <| .k <| .k <| .k <| .nil) rfl ?_; refine jx1 ?_; refine jl ?_; refine tO (ok_nilO rfl uu) rfl rfl ?_
       refine jx2 ?_; refine TrL.finN ?_; refine jx6 ?_
       exact End.lp (k + 1) zi zo (Ent.mk (.i rfl zi <| zk) (.e (by rfl) rfl <| .a (by rw [take_succ_nth zo, List.map_append, hnk k zo]; rfl) zi <| zk) rfl)
     ·intro h11
      replace h11 := Int.not_lt.1 h11
      refine jx4 ?_
      exact End.cut (k) zo (Ent.mk (.i rfl zi <| zk) (zk) rfl)
    ·rintro k hkn
     refine je ?_
     have htk : ls.take k = ls := by rw [hkn, ← hll, List.take_length]
     rw [htk]
     refine jx2 ?_; refine Tr.frzC 139 38 (by simp only [lenMax]; omega) rfl rfl ?_; refine jn ?_; refine jx6 ?_; refine TrL.mutQ (ct_places r _ _ ls _ _ _ _ _ x.2.1 D M x.2.1.length hpo hlo zo hp1) rfl (.a rfl uu <| .nil) rfl rfl ?_; refine jx3 ?_; refine tO (ok_nilO rfl uu) rfl rfl ?_; refine jx2 ?_; refine tO (ok_nilO rfl uu) rfl rfl ?_; refine jx10 ?_; refine TrL.mutQ (ct_places r _ _ ls _ _ _ _ _ x.2.2.1 D M x.2.1.length hpo hlo zo hp2) rfl (.a rfl uu <| .nil) rfl rfl ?_; refine jx3 ?_; refine tO (ok_nilO rfl uu) rfl rfl ?_; refine jx8 ?_; refine tO (ok_nilO rfl uu) rfl rfl ?_
     refine jx6 ?_; refine Tr.growC 38 6 140 rfl (ks' := [_, _, _, _, _, _, kOsl 140 0, _, _]) rfl rfl 30 eNum rfl (.cons inferInstance rfl <| .cons inferInstance rfl <| .cons inferInstance rfl <| .cons inferInstance rfl <| .cons inferInstance rfl <| .cons inferInstance rfl <| .cons inferInstance rfl <| .cons inferInstance rfl <| .cons inferInstance rfl <| inferInstance) ?_
     refine Tr.for1 (σ := Nat) [⟨4, true, _, _⟩, ⟨7, true, _, _⟩, ⟨90, true, _, _⟩] [] (fun k => [⟨91, true, [], kI (k : Int)⟩]) (fun k => [⟨38, [140], cBlk [kPtr eReal r, kRd (eL eI) x.2.1, kRd (eL eI) x.2.2.1, kRd (eL eNum) (ls.map giveN), kRd (eL eNum) ((plV ls x.2.1).map giveN), kRd (eL eNum) ((plV ls x.2.2.1).map giveN), kOsl 140 k, kRd (eL (eL eI)) (giveN (totV ls x.2.1)).1, kRd (eL eI) (giveN (totV ls x.2.1)).2]⟩, ⟨140, [], cArr true 30 eNum (tab k fun a => giveN (subV (nth (plV ls x.2.2.1) a) (nth (plV ls x.2.1) a))) k⟩]) (fun k => k ≤ x.2.1.length) (fun k => k = x.2.1.length) (fun k => x.2.1.length - k) (0) zi (Ent.mk (.i rfl zi <| zk) (.e (by rfl) rfl <| .a (by rfl) zi <| .nil) rfl) ?_ ?_
     ·intro k hR1
      refine jn ?_; refine jx6 ?_; refine jq ?_ ?_
      ·intro h20
       refine jx10 ?_; refine Tr.drawM (m := 22) mixed (by kernel_rfl) rfl (by kernel_rfl) (by kernel_rfl) (by kernel_rfl) ?_
       have hq1 := plV_ok hpo hlo hp1 (a := k) zo
       have hq2 := plV_ok hpo hlo hp2 (a := k) zo
       refine jx2 ?_; refine rO (ok_nilO rfl uu) rfl rfl ?_; refine jx4 ?_; refine rO (ok_nilO rfl uu) rfl rfl ?_; refine jx6 ?_; refine rO (ok_nilO rfl uu) rfl rfl ?_; refine jx5 ?_; refine jd (ct_vSub r (nth (plV ls x.2.2.1) k) (nth (plV ls x.2.1) k) 200 hpo hq2.1 hq1.1 (hlo.nbd hq2.2 zo) (hlo.nbd hq1.2 zo) zo (nth_mapG (by rw [plV_len]; omega)).symm (nth_mapG (by rw [plV_len]; omega)).symm) ?_; refine RunD.new (ok_bsl eNum 115 (fun hp => .cons rfl <| .nil) rfl rfl rfl rfl) rfl rfl rfl rfl ?_; refine jx1 ?_; refine TrL.wkC 38 (.k <| .k <| .k <| .k <| .k <| .k <| .any <| .k <| .k <| .nil) rfl ?_
       refine jx1 ?_; refine jl ?_; refine tO (ok_nilO rfl uu) rfl rfl ?_; refine jx2 ?_; refine TrL.finN ?_; refine jx6 ?_
       exact End.lp (k + 1) zi zo (Ent.mk (.i rfl zi <| zk) (.e (by rfl) rfl <| .a (by rw [tab_succ]) zi <| .nil) rfl)
      ·intro h20
       replace h20 := Int.not_lt.1 h20
       refine jx4 ?_
       exact End.cut (k) zo (Ent.mk (.i rfl zi <| zk) (zk) rfl)
     ·rintro k hkn
      refine je ?_; refine jx2 ?_; refine Tr.frzC 140 38 (by simp only [lenMax]; omega) rfl rfl ?_; refine jn ?_; refine Tr.frzB 38 [7] eMac ⟨rfl, trivial⟩ rfl ?_; refine jn ?_; refine jx7 ?_; exact Rts.res (fn := Tryz.f66) (ts := [2, 3]) rfl rfl (.p rfl (by rw [hkn]; simp only [mac, awV, tab, List.map_map]; rfl) <| .i rfl (by rfl) <| .nil)

end Go.Fl

/- What the walks of iterators lean on. -/

/- The letter of a point. No program in sight. -/
namespace Go.Fl
open Go
theorem nth_drop1 {xs : List Int} {i : Nat} : nth (xs.drop 1) i = nth xs (i + 1) := by simp [nth]
theorem NumOk.mono {j k : Nat} {x : List (List Int) × List Int} (h : NumOk j x) (hjk : j ≤ k) : NumOk k x := ⟨h.len, fun i => ⟨(h.c i).1, Nat.le_trans (h.c i).2 hjk⟩, h.d.1, Nat.le_trans h.d.2 hjk⟩
def letV (sg : NvT → Int) (tops : List NvT) (row : List Int) (pv : NvT) : Nat → Int
 | 0 => nth row 0
 | k + 1 => if sg (subV (nth tops (nth row (k + 1)).toNat) pv) ≤ 0 then nth row (k + 1) else letV sg tops row pv k
theorem letV_at {sg : NvT → Int} {tops : List NvT} {row : List Int} {pv : NvT} : ∀ k, ∃ j, j ≤ k ∧ letV sg tops row pv k = nth row j
 | 0 => ⟨0, Nat.le_refl _, rfl⟩
 | k + 1 => by
  rw [letV]
  split
  ·exact ⟨k + 1, Nat.le_refl _, rfl⟩
  ·obtain ⟨j, h1, h2⟩ := letV_at (sg := sg) (tops := tops) (row := row) (pv := pv) k
   exact ⟨j, by omega, h2⟩
theorem letV_rg {sg : NvT → Int} {tops : List NvT} {row : List Int} {pv : NvT} {n k : Nat} (h : pmR row n) (hk : k < n) : 0 ≤ letV sg tops row pv k ∧ letV sg tops row pv k < n := by
 obtain ⟨j, h1, h2⟩ := letV_at (sg := sg) (tops := tops) (row := row) (pv := pv) k
 rw [h2]
 exact h.1 j (by have := h.2.2; omega)
theorem awV_len {o : List Int × List Int} {ls : List NvT} {n : Nat} : (awV o ls n).length = n := tab_len
theorem aw_ok {p : List Int} {D : Int} {M n : Nat} {ls : List NvT} {o : List Int × List Int} (hp : PolOk p) (h : LenOk p D M n ls) (h1 : pmR o.1 n) (h2 : pmR o.2 n) {a : Nat} (ha : a < n) : RedN p (nth (awV o ls n) a) ∧ HB D (2 * n * M) (nth (awV o ls n) a) := by
 unfold awV
 rw [nth_tab ha]
 obtain ⟨a1, a2⟩ := plV_ok hp h h1 ha
 obtain ⟨b1, b2⟩ := plV_ok hp h h2 ha
 refine ⟨sub_RedN b1 a1, ?_⟩
 rw [show 2 * n * M = n * M + n * M by rw [Nat.mul_assoc, Nat.two_mul]]
 exact b2.sub h.pos a2
def imgV (o : List Int × List Int) (ls : List NvT) (pv : NvT) (a : Int) : NvT := adV pv (nth (awV o ls o.1.length) a.toNat)
def sgQ (v : NvT) : Int := cmpZ (nth v.1 0) 0
theorem pol_rat : PolOk [0, 1] := by
 refine ⟨by decide, fun i => ?_⟩
 match i with
 | 0 => show dl 0 ≤ 1; rw [dl_zero.2 rfl]; omega
 | 1 => show dl 1 ≤ 1; exact dl_small zo zo
 | i + 2 => rw [nth_out (by simp)]; show dl 0 ≤ 1; rw [dl_zero.2 rfl]; omega
end Go.Fl

/- Contracts: loops over slices.Backward; points, their letters and images. -/
namespace Go.Fl
open Go Go.Proofs
open TrL renaming op → tO
open RunD renaming op → rO
set_option maxRecDepth 100000

instance {r : RlT} {o : Ori} {ls : List NvT} : FieldP eMac (mac r o ls) 0 (ePtr eReal) (r) 0 := inferInstanceAs (FieldP eMac (mac r o ls) 0 (ePtr eReal) ((mac r o ls).1) _)
instance {r : RlT} {o : Ori} {ls : List NvT} : FieldP eMac (mac r o ls) 1 eO (o) 1 := inferInstanceAs (FieldP eMac (mac r o ls) 1 eO ((mac r o ls).2.1) _)
instance {r : RlT} {o : Ori} {ls : List NvT} : FieldP eMac (mac r o ls) 2 (eL eNum) (ls.map giveN) 3 := inferInstanceAs (FieldP eMac (mac r o ls) 2 (eL eNum) ((mac r o ls).2.2.1) _)
instance {r : RlT} {o : Ori} {ls : List NvT} : FieldP eMac (mac r o ls) 3 (eL eNum) ((plV ls o.1).map giveN) 4 := inferInstanceAs (FieldP eMac (mac r o ls) 3 (eL eNum) ((mac r o ls).2.2.2.1) _)
instance {r : RlT} {o : Ori} {ls : List NvT} : FieldP eMac (mac r o ls) 4 (eL eNum) ((plV ls o.2).map giveN) 5 := inferInstanceAs (FieldP eMac (mac r o ls) 4 (eL eNum) ((mac r o ls).2.2.2.2.1) _)
instance {r : RlT} {o : Ori} {ls : List NvT} : FieldP eMac (mac r o ls) 5 (eL eNum) ((awV o ls o.1.length).map giveN) 6 := inferInstanceAs (FieldP eMac (mac r o ls) 5 (eL eNum) ((mac r o ls).2.2.2.2.2.1) _)
instance {r : RlT} {o : Ori} {ls : List NvT} : FieldP eMac (mac r o ls) 6 eNum (giveN (totV ls o.1)) 7 := inferInstanceAs (FieldP eMac (mac r o ls) 6 eNum ((mac r o ls).2.2.2.2.2.2) _)
instance {r : RlT} {o : Ori} {ls : List NvT} : CellsK (kRd eMac (mac r o ls)) [kPtr eReal (r), kRd (eL eI) (o.1), kRd (eL eI) (o.2), kRd (eL eNum) (ls.map giveN), kRd (eL eNum) ((plV ls o.1).map giveN), kRd (eL eNum) ((plV ls o.2).map giveN), kRd (eL eNum) ((awV o ls o.1.length).map giveN), kRd (eL (eL eI)) ((giveN (totV ls o.1)).1), kRd (eL eI) ((giveN (totV ls o.1)).2)] := inferInstanceAs (CellsK (kRd eMac (mac r o ls)) [kPtr eReal ((mac r o ls).1), kRd (eL eI) (((mac r o ls).2.1).1), kRd (eL eI) (((mac r o ls).2.1).2), kRd (eL eNum) ((mac r o ls).2.2.1), kRd (eL eNum) ((mac r o ls).2.2.2.1), kRd (eL eNum) ((mac r o ls).2.2.2.2.1), kRd (eL eNum) ((mac r o ls).2.2.2.2.2.1), kRd (eL (eL eI)) (((mac r o ls).2.2.2.2.2.2).1), kRd (eL eI) (((mac r o ls).2.2.2.2.2.2).2)])
instance {r : RlT} {o : Ori} {ls : List NvT} {tl : List Know} : EncCells eMac (mac r o ls) tl (kPtr eReal (r) :: kRd (eL eI) (o.1) :: kRd (eL eI) (o.2) :: kRd (eL eNum) (ls.map giveN) :: kRd (eL eNum) ((plV ls o.1).map giveN) :: kRd (eL eNum) ((plV ls o.2).map giveN) :: kRd (eL eNum) ((awV o ls o.1.length).map giveN) :: kRd (eL (eL eI)) ((giveN (totV ls o.1)).1) :: kRd (eL eI) ((giveN (totV ls o.1)).2) :: tl) := inferInstanceAs (EncCells eMac (mac r o ls) tl (kPtr eReal ((mac r o ls).1) :: kRd (eL eI) (((mac r o ls).2.1).1) :: kRd (eL eI) (((mac r o ls).2.1).2) :: kRd (eL eNum) ((mac r o ls).2.2.1) :: kRd (eL eNum) ((mac r o ls).2.2.2.1) :: kRd (eL eNum) ((mac r o ls).2.2.2.2.1) :: kRd (eL eNum) ((mac r o ls).2.2.2.2.2.1) :: kRd (eL (eL eI)) (((mac r o ls).2.2.2.2.2.2).1) :: kRd (eL eI) (((mac r o ls).2.2.2.2.2.2).2) :: tl))
section
open Go Go.RowKit Go.Proofs
attribute [local go_sem] Oper.semAt_some
set_option maxHeartbeats 2000000 in
theorem back_ints : BackOk Tryz.prog 194 eI := by
 intro J W xs ptr him hp
 obtain ⟨bx, ox, ds, rfl, hrd, hcell⟩ := hp
 obtain ⟨ad, cap, rfl, ⟨hlen, hcap⟩, hrow⟩ := hrd
 refine ⟨fun i => .int .i64 (nth xs i), fun i _ => ⟨[.int .i64 (nth xs i)], rfl, rfl⟩, ?_⟩
 intro l Iv Ix hY h0
 have hbox : ∀ W', Im J W' → W'.cell? ⟨bx, ox, none⟩ = some (.slice ad xs.length cap) := fun W' h => h _ _ _ (by have := hcell 0 _ rfl; simpa using this)
 simp only [lenMax] at hlen
 have hb0 := hbox W him
 refine (callsIn_wide (n := 3)).1 ?_; refine callsIn_of_wp Tryz.func194 rfl trivial ?_
 simp only [Tryz.ntmps194, List.size_toArray, List.length_cons, List.length_nil, Nat.reduceAdd, Nat.reduceSub, Array.replicate_succ, Array.replicate_zero, List.push_toArray, List.append_toArray, List.nil_append, List.cons_append]
 gi_wp2
 gi_loopw [3] (fun i wr => ∃ k : Nat, k ≤ xs.length ∧ i = .int .i64 ((xs.length : Int) - 1 - k) ∧ Iv k wr ∧ Im J wr)
  (fun i _ => (intOf i + 1).toNat)
 case atStart => exact ⟨0, Nat.zero_le _, by simp, h0, him⟩
 case round =>
  obtain ⟨k, hk, rfl, hJs, himr⟩ := hrel
  have hbr := hbox wr himr
  by_cases hlt : k < xs.length
  ·obtain ⟨fn, tmps, assign, body, hy, hR⟩ := hY k wr hlt himr hJs
   rw [show ((xs.length - 1 - k : Nat) : Int) = (xs.length : Int) - 1 - k by omega] at hy
   obtain ⟨b, o, rfl, hrw⟩ := hrow.resolve_left (fun e => by subst e; simp at hlt)
   have hcx : wr.cell? ⟨b, o + (xs.length - 1 - k), none⟩ = some (.int .i64 (nth xs (xs.length - 1 - k))) := by
    obtain ⟨ds, q1, q2⟩ := hrw (xs.length - 1 - k) _ (nth_get zo)
    have q1 : ds = [.int .i64 (nth xs (xs.length - 1 - k))] := q1
    subst q1
    have := himr _ _ _ (q2 0 _ rfl)
    simpa [eI, eInt] using this
   gi_wp2
   refine hR.mono ?_
   rintro e W3 (⟨rfl, hJ3, hk3⟩ | ⟨rfl, hJx3⟩)
   ·gi_wp2
    go_roundw
    case rel => exact ⟨k + 1, by omega, by congr 1; omega, hJ3, hk3⟩
    case measure => simp [intOf]; omega
   ·gi_wp2
    refine bodyPost_ret (results_none rfl _ _ _) rfl ?_; exact ⟨⟨_, rfl⟩, .inr ⟨k, hlt, hJx3⟩⟩
  ·obtain rfl : k = xs.length := by omega
   gi_wp2
   go_end0
   exact ⟨⟨_, rfl⟩, .inl hJs⟩
end
theorem ct_backI (xs : List Int) : Ct Tryz.prog 166 [kRd (eL eI) xs] (kClo 194 [kPtr (eL eI) xs]) := by
 refine Ct.mk Tryz.func166 rfl Tryz.ntmps166 rfl (fun w J => ?_); refine jx2 ?_; refine jb 1 rfl ?_; refine jx4 ?_; refine Tr.frzB 1 [1] (eL eI) ⟨rfl, trivial⟩ rfl ?_; refine jn ?_; refine jx1 ?_; refine tO (ok_clo (.cons rfl uu <| .nil)) rfl rfl ?_; refine jx4 ?_; exact Rts.res1 (fn := Tryz.f166) rfl (zk)

theorem ct_inside (r : RlT) (o : Ori) (ls : List NvT) (sg : NvT → Int) (p q : NumT) (hs : SgnC r sg) (hpn : NumOk 250 p) (hq : NumOk 250 q) : Ct Tryz.prog 67 [kPtr eMac (mac r o ls), kRd eNum p, kRd eNum q] (kB (decide (0 ≤ sg (takeN r.2.1 p)) && decide (sg (subV (takeN r.2.1 p) (takeN r.2.1 q)) < 0))) := by
 refine Ct.mk Tryz.func67 rfl Tryz.ntmps67 rfl (fun w J => ?_); refine jx2 ?_; refine jb 4 rfl ?_; refine jb 5 rfl ?_; refine jx4 ?_; refine Tr.draw 14 mixed (by kernel_rfl) ?_; refine jx1 ?_; refine rO (ok_nilP rfl uu) rfl rfl ?_; refine jx3 ?_; refine rO (ok_call (fun hp => hs.sign _ hpn) (.a rfl uu <| .s rfl uu rfl <| .nil)) rfl rfl ?_; refine jx3 ?_; refine RunD.gd rfl rfl rfl (ok_nilP rfl id) rfl rfl ?_; refine jx5 ?_; refine TrL.gd rfl rfl rfl (ok_call (fun hp => hs.cmp _ _ hpn hq) (.a rfl id <| .s rfl id rfl <| .s rfl id rfl <| .nil)) rfl rfl ?_; refine jx6 ?_
 exact Rts.res1 (fn := Tryz.f67) rfl (.b rfl zi <| .nil)

theorem ct_letter (r : RlT) (o : Ori) (ls : List NvT) (sg : NvT → Int) (D : Int) (M : Nat) (p : NumT) (hpo : PolOk r.2.1) (hs : SgnC r sg) (v : RowsOk o) (hlo : LenOk r.2.1 D M o.1.length ls) (hpn : NumOk 250 p) : Ct Tryz.prog 117 [kPtr eMac (mac r o ls), kRd eNum p] (kI (letV sg (plV ls o.1) o.1 (takeN r.2.1 p) (o.1.length - 1))) := by
 have hle : o.1.length ≤ 8 := v.le
 have htwo : 2 ≤ o.1.length := v.two
 have hp1 : pmR o.1 o.1.length := v.p1
 have hrr := hp1.1
 have hpl1 : ((plV ls o.1).map giveN).length = o.1.length := by rw [List.length_map, plV_len]
 have hdl : (o.1.drop 1).length = o.1.length - 1 := List.length_drop
 have hdn : ∀ i, nth (o.1.drop 1) i = nth o.1 (i + 1) := fun i => nth_drop1
 refine CtM.mk Tryz.func117 rfl Tryz.ntmps117 rfl (fun w J => ?_); refine jx2 ?_; refine jb 2 rfl ?_; refine jb 3 rfl ?_; refine ja 4 ?_; refine jx5 ?_; refine tO (ok_nilP rfl uu) rfl rfl ?_; refine jx10 ?_; refine tO (ok_slJl rfl uu rfl uu (fun _ => zo) rfl) rfl rfl ?_; refine tO (ok_call (fun hp => ct_backI _) (.a rfl uu <| .nil)) rfl rfl ?_; refine jx3 ?_; refine Tr.back (e := eI) (xs := (o.1.drop 1)) back_ints [⟨2, true, _, _⟩, ⟨3, true, _, _⟩, ⟨4, true, _, _⟩, ⟨5, true, _, _⟩, ⟨15, true, _, _⟩] [2, 3, 4] (fun k => [⟨2, [], cBlk [kPtr eMac (mac r o ls)]⟩, ⟨3, [], cBlk [kRd (eL (eL eI)) p.1, kRd (eL eI) p.2]⟩, ⟨4, [], cBlk [kI 0]⟩]) (fun k => [⟨2, [], cBlk [kPtr eMac (mac r o ls)]⟩, ⟨3, [], cBlk [kRd (eL (eL eI)) p.1, kRd (eL eI) p.2]⟩, ⟨4, [], cBlk [kI (nth (o.1.drop 1) ((o.1.drop 1).length - k))]⟩]) (fun k => letV sg (plV ls o.1) o.1 (takeN r.2.1 p) (o.1.length - 1) = letV sg (plV ls o.1) o.1 (takeN r.2.1 p) (o.1.length - 1 - k)) (fun k => letV sg (plV ls o.1) o.1 (takeN r.2.1 p) (o.1.length - 1) = nth (o.1.drop 1) ((o.1.drop 1).length - k)) (Ent.mk (.k rfl rfl <| .k rfl rfl <| .k rfl rfl <| .k rfl rfl <| .k rfl rfl <| .nil) (.k rfl <| .k rfl <| .k rfl <| .nil) rfl) rfl rfl (fun _ => rfl) (fun _ => rfl) (fun _ => inferInstance) (fun _ => inferInstance) rfl rfl ?_ ?_ ?_
 ·intro k hk15 hR15 l15 w15 J15 b15 bks15
  refine jn ?_
  have hix : (o.1.drop 1).length - 1 - k + 1 = o.1.length - 1 - k := by omega
  have hio := hrr (o.1.length - 1 - k) zo
  have hni := hdn ((o.1.drop 1).length - 1 - k)
  rw [hix] at hni
  have hq := plV_ok hpo hlo hp1 (a := (nth o.1 (o.1.length - 1 - k)).toNat) zo
  have hmg : nth ((plV ls o.1).map giveN) (nth (o.1.drop 1) ((o.1.drop 1).length - 1 - k)).toNat = giveN (nth (plV ls o.1) (nth o.1 (o.1.length - 1 - k)).toNat) := by rw [hni]; exact nth_mapG (by rw [plV_len]; omega)
  obtain ⟨m, hm⟩ : ∃ m, o.1.length - 1 - k = m + 1 := ⟨o.1.length - 1 - (k + 1), by omega⟩
  refine jx3 ?_; refine End.asg (fun w1015 J1015 b1015 => ?_); refine jn ?_; refine jx2 ?_; refine Tr.draw 12 mixed (by kernel_rfl) ?_; refine jx1 ?_; refine rO (ok_nilP rfl uu) rfl rfl ?_; refine jx3 ?_; refine rO (ok_nilP rfl uu) rfl rfl ?_; refine jx7 ?_; refine tO (ok_call (fun hp => hs.cmp _ _ (by rw [hmg]; exact (give_NumOk (hlo.nbd hq.2 zo)).mono zo) hpn) (.a rfl uu <| .a rfl uu <| .s rfl uu rfl <| .nil)) rfl rfl ?_; refine jx3 ?_; refine jq ?_ ?_
  ·intro h4
   rw [hmg, take_give hq.1] at h4
   refine jx8 ?_; exact Rts.rnd (by rw [hR15, show (o.1.drop 1).length - (k + 1) = (o.1.drop 1).length - 1 - k by omega, hni, hm, letV, if_pos (by rw [← hm]; omega)]) (Ent.mk (zk) (.k rfl <| .k rfl <| .e (by rw [show (o.1.drop 1).length - (k + 1) = (o.1.drop 1).length - 1 - k by omega]) rfl <| .nil) rfl)
  ·intro h4
   replace h4 := Int.not_le.1 h4
   rw [hmg, take_give hq.1] at h4
   refine jx2 ?_; exact End.rnd (by rw [hR15, hm, letV, if_neg (by rw [← hm]; omega), show o.1.length - 1 - (k + 1) = m by omega]) (Ent.mk (zk) (zk) rfl)
 ·intro hE15
  refine je ?_; refine jx11 ?_; refine Rts.mk ?_; exact Rts.resL1 (fn := Tryz.f117) rfl rfl rfl (kI_conv (by rw [hE15, show o.1.length - 1 - (o.1.drop 1).length = 0 by omega]; rfl))
 ·intro k hk15 hX15
  refine Rts.norm (S' := [⟨2, true, _, _⟩, ⟨3, true, _, _⟩, ⟨4, true, _, _⟩, ⟨5, true, _, _⟩, ⟨15, true, _, _⟩]) (M' := [⟨2, _, _⟩, ⟨3, _, _⟩, ⟨4, _, _⟩]) rfl rfl ?_; refine jx2 ?_; refine Rts.mk ?_; exact Rts.resL1 (fn := Tryz.f117) rfl rfl rfl (kI_conv hX15.symm)

end Go.Fl

/- Contracts: the image of a point. -/
namespace Go.Fl
open Go Go.Proofs
open TrL renaming op → tO
open RunD renaming op → rO
set_option maxRecDepth 100000

theorem sgnQ {r : RlT} (hpo : PolOk r.2.1) (h2 : r.2.1.length = 2) : SgnC r sgQ := ⟨fun x h => ct_fSignQ r x 250 hpo h2 h zo, fun x y hx hy => ct_fCmpQ r x y 250 hpo hx hy zo h2⟩
theorem ct_image (r : RlT) (o : Ori) (ls : List NvT) (sg : NvT → Int) (D : Int) (M : Nat) (p : NumT) (hpo : PolOk r.2.1) (hs : SgnC r sg) (v : RowsOk o) (hlo : LenOk r.2.1 D M o.1.length ls) (hpn : NumOk 250 p) : Ct Tryz.prog 68 [kPtr eMac (mac r o ls), kRd eNum p] (kTup [kRd eNum (giveN (imgV o ls (takeN r.2.1 p) (letV sg (plV ls o.1) o.1 (takeN r.2.1 p) (o.1.length - 1)))), kI (letV sg (plV ls o.1) o.1 (takeN r.2.1 p) (o.1.length - 1))]) := by
 have hle : o.1.length ≤ 8 := v.le
 have htwo : 2 ≤ o.1.length := v.two
 have hp1 : pmR o.1 o.1.length := v.p1
 have hrr := hp1.1
 have hpl1 : ((plV ls o.1).map giveN).length = o.1.length := by rw [List.length_map, plV_len]
 have hp2 := v.p2
 have hlt := letV_rg (sg := sg) (tops := plV ls o.1) (pv := takeN r.2.1 p) hp1 (show o.1.length - 1 < o.1.length by omega)
 have hq := aw_ok hpo hlo hp1 hp2 (a := (letV sg (plV ls o.1) o.1 (takeN r.2.1 p) (o.1.length - 1)).toNat) zo
 have hmg : nth ((awV o ls o.1.length).map giveN) (letV sg (plV ls o.1) o.1 (takeN r.2.1 p) (o.1.length - 1)).toNat = giveN (nth (awV o ls o.1.length) (letV sg (plV ls o.1) o.1 (takeN r.2.1 p) (o.1.length - 1)).toNat) := nth_mapG (by rw [awV_len]; omega)
 have hal : ((awV o ls o.1.length).map giveN).length = o.1.length := by rw [List.length_map, awV_len]
 refine Ct.mk Tryz.func68 rfl Tryz.ntmps68 rfl (fun w J => ?_); refine jx2 ?_; refine jb 3 rfl ?_; refine ja 4 ?_; refine jx7 ?_; refine jc (ct_letter r o ls sg D M p hpo hs v hlo hpn) ?_; refine jx4 ?_; refine Tr.drawS 14 4 mixed (by kernel_rfl) ?_; refine RunS.opA (ok_move rfl uu) (by kernel_rfl) rfl rfl ?_; refine RunS.opA (ok_nilP rfl uu) (by kernel_rfl) rfl rfl ?_; refine RunS.opA (ok_fldP rfl uu rfl) (by kernel_rfl) rfl rfl ?_; refine RunS.opA (ok_ldP rfl uu rfl) (by kernel_rfl) rfl rfl ?_; refine RunS.opA (ok_ldBS rfl uu) (by kernel_rfl) rfl rfl ?_; refine RunS.opA (ok_move rfl uu) (by kernel_rfl) rfl rfl ?_
 refine RunS.opA (ok_nilP rfl uu) (by kernel_rfl) rfl rfl ?_; refine RunS.opA (ok_fldP rfl uu rfl) (by kernel_rfl) rfl rfl ?_; refine RunS.opA (ok_ldP rfl uu rfl) (by kernel_rfl) rfl rfl ?_; refine RunS.opA (ok_move rfl uu) (by kernel_rfl) rfl rfl ?_
 first | refine RunS.opA (ok_idxN rfl uu rfl uu rfl (fun _ => zo)) (by kernel_rfl) rfl rfl ?_ | refine RunS.opA (ok_idxP rfl uu rfl uu rfl (fun _ => zo)) (by kernel_rfl) rfl rfl ?_
 refine RunS.opA (ok_ldPA rfl uu rfl rfl) (by kernel_rfl) rfl rfl ?_; refine RunS.opA (ok_call (fun hp => ct_fAddN r p _ 250 hpo hpn (by rw [hmg]; exact (give_NumOk (hlo.nbd hq.2 zo)).mono zo) zo) (.a rfl uu <| .s rfl uu rfl <| .a rfl uu <| .nil)) (by kernel_rfl) rfl rfl ?_; refine RunS.op (ok_move rfl uu) rfl rfl ?_; refine RunS.z (st_B rfl rfl rfl) rfl rfl rfl ?_; refine jx4 ?_; exact Rts.resC (fn := Tryz.f68) (ts := [5]) rfl rfl rfl (aggRd rfl (by rw [hmg, take_give hq.1]; rfl)) (.i rfl (by rfl) <| .nil)

theorem ct_xApply (x : ExT) (r : RlT) (sg : NvT → Int) (D : Int) (M : Nat) (p : NumT) (hop : Ct Tryz.prog 113 [kRd eFd x.1] (kTup [kPtr eReal r, kI 0])) (hpo : PolOk r.2.1) (hs : SgnC r sg) (v : RowsOk (x.2.1, x.2.2.1)) (hl : x.2.2.2.length = x.2.1.length) (hnm : ∀ a, a < x.2.1.length → NumOk 250 (nth x.2.2.2 a)) (hlo : LenOk r.2.1 D M x.2.1.length (x.2.2.2.map (takeN r.2.1))) (hpos : ∀ a, a < x.2.1.length → 0 < sg (takeN r.2.1 (nth x.2.2.2 a))) (hpn : NumOk 250 p) (hin : 0 ≤ sg (takeN r.2.1 p) ∧ sg (subV (takeN r.2.1 p) (totV (x.2.2.2.map (takeN r.2.1)) x.2.1)) < 0) : Ct Tryz.prog 15 [kRd eX x, kRd eNum p] (kTup [kRd eNum (giveN (imgV (x.2.1, x.2.2.1) (x.2.2.2.map (takeN r.2.1)) (takeN r.2.1 p) (letV sg (plV (x.2.2.2.map (takeN r.2.1)) x.2.1) x.2.1 (takeN r.2.1 p) (x.2.1.length - 1)))), kI (letV sg (plV (x.2.2.2.map (takeN r.2.1)) x.2.1) x.2.1 (takeN r.2.1 p) (x.2.1.length - 1)), kI 0]) := by
 have hle : x.2.1.length ≤ 8 := v.le
 have hp1 : pmR x.2.1 x.2.1.length := v.p1
 have htt := pt_ok hpo hlo hp1 x.2.1.length (Nat.le_refl _)
 have htg : takeN r.2.1 (giveN (totV (x.2.2.2.map (takeN r.2.1)) x.2.1)) = totV (x.2.2.2.map (takeN r.2.1)) x.2.1 := take_give htt.1
 refine Ct.mk Tryz.func15 rfl Tryz.ntmps15 rfl (fun w J => ?_); refine jx2 ?_; refine jb 2 rfl ?_; refine jb 3 rfl ?_; refine ja 4 ?_; refine jx7 ?_; refine jc (ct_xopen x r sg D M hop hpo hs v hl hnm hlo hpos) ?_; refine jx14 ?_; refine Tr.cnd rfl ?_ ?_
 ·intro h2
  exact absurd h2 (by decide)
 ·intro h2
  refine jx4 ?_; refine Tr.draw 6 mixed (by kernel_rfl) ?_; refine jx3 ?_; refine rO (ok_nilP rfl uu) rfl rfl ?_; refine jx3 ?_; refine jc (ct_inside r (x.2.1, x.2.2.1) (x.2.2.2.map (takeN r.2.1)) sg p (giveN (totV (x.2.2.2.map (takeN r.2.1)) x.2.1)) hs hpn ((give_NumOk (hlo.nbd htt.2 zo)).mono zo)) ?_; refine jx3 ?_; refine Tr.cnd rfl ?_ ?_
  ·intro h4
   rw [htg] at h4; simp [hin.1, hin.2] at h4
  ·intro h4
   refine jx6 ?_; refine jc (ct_image r (x.2.1, x.2.2.1) (x.2.2.2.map (takeN r.2.1)) sg D M p hpo hs v hlo hpn) ?_; refine jx3 ?_; refine ja 9 ?_; refine jx14 ?_
   exact Rts.resC (fn := Tryz.f15) (ts := [5, 6]) rfl rfl rfl (aggRd rfl zi) (.i rfl zi <| .i rfl zi <| .nil)

end Go.Fl

/- Lowest terms, as the reference of chapter 1 finds them. No program in sight. -/
namespace Go.Fl
open Go
theorem trim_snoc {xs : List Int} {x : Int} (hx : x ≠ 0) : trimL (xs ++ [x]) = xs ++ [x] := by
 have := trim_take (xs := xs ++ [x]) (m := xs.length + 1) (by simp) (fun i h1 h2 => by simp at h2; omega) (.inr (by simpa [nth] using hx))
 rw [this, List.take_of_length_le (by simp)]
theorem trim_snoc0 {xs : List Int} : trimL (xs ++ [0]) = trimL xs := trim_pad (k := 1)
theorem trim_step {xs : List Int} {k : Nat} (hk : k < xs.length) : (trimL (xs.take (k + 1))).length = if nth xs k = 0 then (trimL (xs.take k)).length else k + 1 := by
 rw [take_succ_nth hk]
 split
 ·rename_i h; rw [h, trim_snoc0]
 ·rename_i h; rw [trim_snoc h, List.length_append, List.length_take]; simp; omega
theorem ediv_zero_iff {a g : Int} (hg : g ≠ 0) (h : g ∣ a) : a / g = 0 ↔ a = 0 := by
 obtain ⟨q, rfl⟩ := h
 rw [Int.mul_ediv_cancel_left _ hg]
 constructor
 ·intro e; rw [e]; simp
 ·intro e; exact (Int.mul_eq_zero.1 e).resolve_left hg
theorem trim_div {g : Int} (hg : g ≠ 0) : ∀ {cs : List Int}, (∀ c ∈ cs, g ∣ c) → trimL (cs.map fun c => c / g) = (trimL cs).map fun c => c / g := by
 intro cs h
 obtain ⟨k, h1, _⟩ := trim_app (xs := cs)
 have hz : (cs.map fun c => c / g) = ((trimL cs).map fun c => c / g) ++ List.replicate k 0 := by
  conv => lhs; rw [h1]
  rw [List.map_append, List.map_replicate]
  simp
 rw [hz, trim_pad]
 by_cases hn : trimL cs = []
 ·rw [hn]; rfl
 ·obtain ⟨xs, x, hx⟩ : ∃ xs x, trimL cs = xs ++ [x] := ⟨_, _, (List.dropLast_concat_getLast hn).symm⟩
  have hl := trim_last hn
  have hx0 : x ≠ 0 := by
   have e : (trimL cs).getLast hn = x := by simp [hx]
   rw [← e]; exact hl
  rw [hx, List.map_append]
  exact trim_snoc fun e => hx0 ((ediv_zero_iff hg (h x (trim_mem (by rw [hx]; simp)))).1 e)
theorem low_give {cs : List Int} {d : Int} (hd : d ≠ 0) : giveN (loN cs d) = (tab (trimL cs).length (fun i => lstZ (nth cs i / sgG d cs)), lstZ (d / sgG d cs)) := by
 unfold giveN loN
 refine Prod.ext ?_ rfl
 show (trimL (cs.map fun c => c / sgG d cs)).map lstZ = _
 rw [trim_div (sgG_ne hd) fun c hc => sgG_dvd (.inr hc)]
 refine ext_nth (by simp [tab]) fun i hi => ?_
 rw [List.length_map, List.length_map] at hi
 rw [nth_tab hi, ← nth_trim]
 simp [nth, hi]
end Go.Fl

/- Contracts: numbers of the reference of chapter 1 in lowest terms. -/
namespace Go.Fl
open Go Go.Proofs
open TrL renaming op → tO
open RunD renaming op → rO
set_option maxRecDepth 100000

set_option maxHeartbeats 1000000 in
theorem ct_rlowest (c : List (List Int)) (d : List Int) (hc : ∀ i, InI (nth c i) ∧ (nth c i).length ≤ 100000) (hd : InI d ∧ d.length ≤ 100000) (h0 : val d ≠ 0) (hcl : c.length ≤ 1000) : Ct Tryz.prog 81 [kRd (eL (eL eI)) c, kRd (eL eI) d] (kRd eNum (giveN (loN (c.map val) (val d)))) := by
 have hdd : dl (val d) ≤ 100003 := by have := dl_val hd.1; have := hd.2; omega
 have hgl : ∀ k, dl (gL (val d).natAbs ((c.map val).take k) : Int) ≤ 100003 := fun k => Nat.le_trans (digN_len_le (gL_le zo)) hdd
 have hvl : (c.map val).length = c.length := List.length_map ..
 have hnv : ∀ k, nth (c.map val) k = val (nth c k) := fun k => nth_mapv
 have hg0 : (sgG (val d) (c.map val)) ≠ 0 := sgG_ne h0
 have hgd : dl (sgG (val d) (c.map val)) ≤ 100003 := by have := hgl c.length; rw [List.take_of_length_le zo] at this; unfold sgG; split; (rw [dl_neg]; exact this); exact this
 have hgz : val [] = 0 := rfl
 have htl : (trimL (c.map val)).length ≤ c.length := by have := trim_len (xs := (c.map val)); omega
 refine Ct.mk Tryz.func81 rfl Tryz.ntmps81 rfl (fun w J => ?_); refine jx2 ?_; refine ja 4 ?_; refine jx5 ?_; refine tO (ok_call (fun hp => ct_rGcd d [] hd.1 (fun _ h => absurd h (Nat.not_lt_zero _)) (by have := hd.2; omega) (by simp)) (.a rfl uu <| .n rfl uu <| .nil)) rfl rfl ?_; refine jx14 ?_
 refine Tr.for1 (σ := Nat) [⟨0, true, _, _⟩, ⟨1, true, _, _⟩, ⟨4, true, _, _⟩] [⟨4, _, _⟩] (fun k => [⟨5, true, [], kRd (eL eI) (digN (gL (val d).natAbs ((c.map val).take k)))⟩, ⟨6, true, [], kI ((trimL ((c.map val).take k)).length : Int)⟩, ⟨7, true, [], kI (k : Int)⟩]) (fun k => []) (fun k => k ≤ c.length) (fun k => k = c.length) (fun k => c.length - k) (0) zi (Ent.mk (.r rfl (by rw [hgz]; simp [gL]) <| .i rfl (by rfl) <| .i rfl zi <| zk) (zk) rfl) ?_ ?_
 ·intro k hR0
  refine jn ?_
  have hck := hc k
  refine jx9 ?_; refine jq ?_ ?_
  ·intro h4
   refine jx11 ?_; refine tO (ok_call (fun hp => ct_rGcd (digN (gL (val d).natAbs ((c.map val).take k))) (nth c k) (digN_dg _).inI hck.1 (by have := hgl k; unfold dl at this; simp only [Int.natAbs_natCast] at this; omega) (by have := hck.2; omega)) (.a rfl uu <| .a rfl uu <| .nil)) rfl rfl ?_; refine jx9 ?_; refine jc (ct_rSign (nth c k) hck.1 (by have := hck.2; omega)) ?_; refine jx3 ?_; refine jq ?_ ?_
   ·intro h7
    have hnz : nth (c.map val) k ≠ 0 := fun e => h7 (cmpZ_z.2 (by rw [← hnv]; exact e))
    refine jx12 ?_
    exact End.lp (k + 1) zi zo (Ent.mk (.r rfl (by rw [digN_val]; refine congrArg digN ?_; have := gL_take (c := (c.map val)) (g := (val d).natAbs) (k := k) zo; rw [hnv] at this; simp only [Int.gcd, Int.natAbs_natCast] at this ⊢; omega) <| .i rfl (by rw [trim_step zo, if_neg hnz]; rfl) <| .i rfl zi <| zk) (zk) rfl)
   ·intro h7
    replace h7 := Classical.not_not.1 h7
    have hnz : nth (c.map val) k = 0 := by rw [hnv]; exact cmpZ_z.1 h7
    refine jx8 ?_
    exact End.lp (k + 1) zi zo (Ent.mk (.r rfl (by rw [digN_val]; refine congrArg digN ?_; have := gL_take (c := (c.map val)) (g := (val d).natAbs) (k := k) zo; rw [hnv] at this; simp only [Int.gcd, Int.natAbs_natCast] at this ⊢; omega) <| .i rfl (by rw [trim_step zo, if_pos hnz]) <| .i rfl zi <| zk) (zk) rfl)
  ·intro h4
   replace h4 := Int.not_lt.1 h4
   refine jx4 ?_
   exact End.cut (k) zo (Ent.mk (.r rfl zi <| .i rfl zi <| .i rfl zi <| zk) (zk) rfl)
 ·rintro _ rfl
  refine je ?_
  rw [show (c.map val).take c.length = (c.map val) from List.take_of_length_le zo]
  refine jx1 ?_; refine Tr.meet2 (σ := Unit) [⟨0, true, _, _⟩, ⟨1, true, _, _⟩, ⟨4, true, _, _⟩, ⟨6, true, _, _⟩] [⟨4, _, _⟩] (zk) (zk) (fun _ => [⟨5, true, [], kRd (eL eI) (lstZ (sgG (val d) (c.map val)))⟩]) (fun _ => []) (fun _ => True) ?_ ?_
  ·skip
   refine jx3 ?_; refine jc (ct_rSign d hd.1 (by have := hd.2; omega)) ?_; refine jx3 ?_; refine jq ?_ ?_
   ·intro h9
    have h9l : val d < 0 := by unfold cmpZ at h9; split at h9; assumption; split at h9 <;> omega
    refine jx2 ?_; refine tO (ok_call (fun hp => ct_rNeg (digN (gL (val d).natAbs (c.map val))) (digN_dg _).inI (by have := hgl c.length; rw [List.take_of_length_le zo] at this; unfold dl at this; simp only [Int.natAbs_natCast] at this; omega)) (.a rfl uu <| .nil)) rfl rfl ?_; refine jx2 ?_
    exact End.cut (()) zi (Ent.mk (.r rfl (by rw [digN_val]; unfold sgG; rw [if_pos h9l]) <| zk) (zk) rfl)
   ·intro h9
    replace h9 := Int.not_lt.1 h9
    have h9l : ¬ val d < 0 := fun e => by unfold cmpZ at h9; rw [if_pos e] at h9; omega
    refine jx1 ?_
    exact End.cut (()) zi (Ent.mk (.r rfl (by unfold sgG; rw [if_neg h9l, lst_nat]) <| zk) (zk) rfl)
  ·intro _ hM
   refine jn ?_; refine jx2 ?_; refine tO (ok_build (fun hp => .nil)) rfl rfl ?_; refine ja 8 ?_; refine jx9 ?_; refine Tr.growC 8 0 108 rfl (ks' := [kOsl 108 0, _]) rfl rfl 22 (eL eI) rfl (.cons inferInstance rfl <| .cons inferInstance rfl <| inferInstance) ?_
   refine Tr.for1 (σ := Nat) [⟨0, true, _, _⟩, ⟨1, true, _, _⟩, ⟨4, true, _, _⟩, ⟨5, true, _, _⟩, ⟨6, true, _, _⟩, ⟨8, true, _, _⟩] [⟨4, _, _⟩] (fun k => [⟨9, true, [], kI (k : Int)⟩]) (fun k => [⟨8, [108], cBlk [kOsl 108 k, kDet (.slice none 0 0)]⟩, ⟨108, [], cArr true 22 (eL eI) (tab k fun i => lstZ (nth (c.map val) i / (sgG (val d) (c.map val)))) k⟩]) (fun k => k ≤ (trimL (c.map val)).length) (fun k => k = (trimL (c.map val)).length) (fun k => (trimL (c.map val)).length - k) (0) zi (Ent.mk (.i rfl zi <| zk) (.e (by rfl) rfl <| .a (by rfl) zi <| zk) rfl) ?_ ?_
   ·intro k hR1
    refine jn ?_
    have hck := hc k
    refine jx8 ?_; refine jq ?_ ?_
    ·intro h13
     refine jx11 ?_; refine tO (ok_call (fun hp => (by have h := ct_rDivMod (nth c k) (lstZ (sgG (val d) (c.map val))) hck.1 (lst_in _) (by have := hck.2; omega) (by rw [lst_len]; omega); simp only [lst_val, if_neg hg0] at h; exact h)) (.a rfl uu <| .a rfl uu <| .nil)) rfl rfl ?_; refine jx13 ?_; refine TrL.new (ok_bsl (eL eI) 59 (fun hp => .cons rfl <| .nil) rfl rfl rfl rfl) rfl rfl rfl rfl ?_; refine TrL.wkC 8 (.any <| .k <| .nil) rfl ?_; refine jx1 ?_; refine jl ?_; refine jx10 ?_
     exact End.lp (k + 1) zi zo (Ent.mk (.i rfl zi <| zk) (.e (by rfl) rfl <| .a (by rw [tab_succ, hnv]) zi <| zk) rfl)
    ·intro h13
     replace h13 := Int.not_lt.1 h13
     refine jx4 ?_
     exact End.cut (k) zo (Ent.mk (.i rfl zi <| zk) (zk) rfl)
   ·rintro k hkn
    refine je ?_; refine jx2 ?_; refine Tr.frzC 108 8 (by simp only [lenMax]; omega) rfl rfl ?_; refine jn ?_; refine jx3 ?_; refine tO (ok_call (fun hp => (by have h := ct_rDivMod (d) (lstZ (sgG (val d) (c.map val))) hd.1 (lst_in _) (by have := hd.2; omega) (by rw [lst_len]; omega); simp only [lst_val, if_neg hg0] at h; exact h)) (.a rfl uu <| .a rfl uu <| .nil)) rfl rfl ?_; refine jx15 ?_; exact Rts.resC1 (fn := Tryz.f81) rfl rfl (aggRd rfl (by rw [low_give h0, hkn]))

theorem ct_rWhole (n : Int) (hn : -9223372036854775808 ≤ n ∧ n ≤ 9223372036854775807) : Ct Tryz.prog 28 [kI n] (kRd eNum (giveN (loN [n] 1))) := by
 refine Ct.mk Tryz.func28 rfl Tryz.ntmps28 rfl (fun w J => ?_); refine jx2 ?_; refine ja 2 ?_; refine jx5 ?_; refine TrL.new (ok_bsl eI 4 (fun hp => .cons rfl <| .nil) rfl rfl rfl rfl) rfl rfl rfl rfl ?_; refine TrL.frz 4 [4] ⟨rfl, trivial⟩ (by decide) rfl ?_; refine jl ?_; refine tO (ok_bslJ (eL eI) (fun hp => .cons rfl <| .nil) rfl rfl rfl rfl) rfl rfl ?_; refine tO (ok_bslJ eI (fun hp => .cons rfl <| .nil) rfl rfl rfl rfl) rfl rfl ?_; refine tO (ok_call (fun hp => ct_rlowest [[n]] [1] (fun i => by match i with | 0 => exact ⟨in1 zo, by show 1 ≤ 100000; omega⟩ | i + 1 => exact ⟨fun _ h => absurd h (Nat.not_lt_zero _), by show 0 ≤ 100000; omega⟩) ⟨in1 zo, by show 1 ≤ 100000; omega⟩ (by decide) (by simp)) (.a rfl uu <| .a rfl uu <| .nil)) rfl rfl ?_
 refine jx4 ?_; exact Rts.resC1 (fn := Tryz.f28) rfl rfl (aggRd rfl (by rw [show [[n]].map val = [n] by simp [val], val_one]))

end Go.Fl

/- The exchange of two intervals, of lengths 3 and 2. No program in sight. -/
namespace Go.Fl
open Go
theorem give_int {n : Int} : giveN (loN [n] 1) = giveN (intV n) := by
 rw [low_one]
 unfold giveN intV
 have : trimL [n, 0, 0, 0] = trimL [n] := trim_pad (xs := [n]) (k := 3)
 simp only [this]
theorem take_int {n : Int} : takeN [0, 1] (giveN (intV n)) = intV n := take_give (int_RedN pol_rat n)
abbrev tls : List NvT := [intV 3, intV 2]
theorem turn_map : ([giveN (intV 3), giveN (intV 2)] : List (List (List Int) × List Int)).map (takeN [0, 1]) = tls := by simp [take_int]
theorem turn_tot : totV tls [0, 1] = intV 5 := by
 have e : totV tls [0, 1] = adV (adV (intV 0) (intV 3)) (intV 2) := rfl
 rw [e, add_int, add_int]; rfl
theorem turn_top : plV tls [0, 1] = [intV 0, intV 3] := by
 have e : plV tls [0, 1] = [intV 0, adV (intV 0) (intV 3)] := rfl
 rw [e, add_int]; rfl
theorem turn_bot : plV tls [1, 0] = [intV 2, intV 0] := by
 have e : plV tls [1, 0] = [adV (intV 0) (intV 2), intV 0] := rfl
 rw [e, add_int]; rfl
theorem turn_aw : awV ([0, 1], [1, 0]) tls 2 = [intV 2, intV (-3)] := by
 unfold awV
 simp only [turn_top, turn_bot]
 show [subV (intV 2) (intV 0), subV (intV 0) (intV 3)] = _
 rw [sub_int, sub_int]; rfl
theorem sgQ_int {n : Int} : sgQ (intV n) = cmpZ n 0 := rfl
theorem turn_l1 : letV sgQ (plV tls [0, 1]) [0, 1] (intV 1) 1 = 0 := by
 rw [turn_top, letV]
 have e : nth ([intV 0, intV 3] : List NvT) (nth ([0, 1] : List Int) (0 + 1)).toNat = intV 3 := rfl
 rw [e, sub_int, sgQ_int, if_neg (by decide)]; rfl
theorem turn_l3 : letV sgQ (plV tls [0, 1]) [0, 1] (intV 3) 1 = 1 := by
 rw [turn_top, letV]
 have e : nth ([intV 0, intV 3] : List NvT) (nth ([0, 1] : List Int) (0 + 1)).toNat = intV 3 := rfl
 rw [e, sub_int, sgQ_int, if_pos (by decide)]; rfl
theorem turn_i1 : imgV ([0, 1], [1, 0]) tls (intV 1) 0 = intV 3 := by
 unfold imgV
 show adV (intV 1) (nth (awV ([0, 1], [1, 0]) tls 2) 0) = _
 rw [turn_aw]
 show adV (intV 1) (intV 2) = _
 rw [add_int]; rfl
theorem turn_i3 : imgV ([0, 1], [1, 0]) tls (intV 3) 1 = intV 0 := by
 unfold imgV
 show adV (intV 3) (nth (awV ([0, 1], [1, 0]) tls 2) 1) = _
 rw [turn_aw]
 show adV (intV 3) (intV (-3)) = _
 rw [add_int]; rfl
theorem turn_in1 : 0 ≤ sgQ (intV 1) ∧ sgQ (subV (intV 1) (totV tls [0, 1])) < 0 := by
 rw [turn_tot, sub_int]; decide
theorem turn_in3 : 0 ≤ sgQ (intV 3) ∧ sgQ (subV (intV 3) (totV tls [0, 1])) < 0 := by
 rw [turn_tot, sub_int]; decide
theorem int_HB {n : Int} {M : Nat} (h : n.natAbs ≤ M) : HB 1 M (intV n) := ⟨[n, 0, 0, 0], rfl, low_one.symm, fun i => by
 match i with
 | 0 => exact h
 | 1 => exact Nat.zero_le _
 | 2 => exact Nat.zero_le _
 | 3 => exact Nat.zero_le _
 | i + 4 => rw [nth_out (by simp)]; exact Nat.zero_le _⟩
theorem turn_len : LenOk [0, 1] 1 3 2 tls := ⟨rfl, fun a ha => by
 match a, ha with
 | 0, _ => exact int_RedN pol_rat 3
 | 1, _ => exact int_RedN pol_rat 2
 | a + 2, ha => omega, fun a ha => by
 match a, ha with
 | 0, _ => exact int_HB (n := 3) (by decide)
 | 1, _ => exact int_HB (n := 2) (by decide)
 | a + 2, ha => omega, by omega, Nat.le_trans (dl_small (F := 1) zo zo) zo, Nat.le_trans (dl_small (F := ((100000 * 3 : Nat) : Int)) zo zo) zo⟩
end Go.Fl

/- Contracts: the exchange that the laws of chapter 5 begin with is mapped as it should. -/
namespace Go.Fl
open Go Go.Proofs
open TrL renaming op → tO
open RunD renaming op → rO
set_option maxRecDepth 100000

abbrev turnX : ExT := (ratF, [0, 1], [1, 0], [giveN (intV 3), giveN (intV 2)])
theorem ct_apT (n a q : Int) (hn : -1000 ≤ n ∧ n ≤ 1000) (hin : 0 ≤ sgQ (intV n) ∧ sgQ (subV (intV n) (totV tls [0, 1])) < 0) (hl : letV sgQ (plV tls [0, 1]) [0, 1] (intV n) 1 = a) (hi : imgV ([0, 1], [1, 0]) tls (intV n) a = intV q) : Ct Tryz.prog 15 [kRd eX turnX, kRd eNum (giveN (intV n))] (kTup [kRd eNum (giveN (intV q)), kI a, kI 0]) := by
 have h := ct_xApply turnX ratR sgQ 1 3 (giveN (intV n)) ct_fOpenRat pol_rat (sgnQ pol_rat rfl) (rows_of (by decide)) rfl (fun k hk => by
  match k, hk with
  | 0, _ => exact (give_NumOk (int_NBd (n := 3) zo)).mono zo
  | 1, _ => exact (give_NumOk (int_NBd (n := 2) zo)).mono zo
  | k + 2, hk => exact absurd hk (by show ¬ k + 2 < 2; omega)) (by
  show LenOk [0, 1] 1 3 2 ([giveN (intV 3), giveN (intV 2)].map (takeN [0, 1]))
  rw [turn_map]; exact turn_len) (fun k hk => by
  match k, hk with
  | 0, _ => show 0 < sgQ (takeN [0, 1] (giveN (intV 3))); rw [take_int]; decide
  | 1, _ => show 0 < sgQ (takeN [0, 1] (giveN (intV 2))); rw [take_int]; decide
  | k + 2, hk => exact absurd hk (by show ¬ k + 2 < 2; omega)) ((give_NumOk (int_NBd (n := n) zo)).mono zo) (by
  show 0 ≤ sgQ (takeN [0, 1] (giveN (intV n))) ∧ sgQ (subV (takeN [0, 1] (giveN (intV n))) (totV ([giveN (intV 3), giveN (intV 2)].map (takeN [0, 1])) [0, 1])) < 0
  rw [take_int, turn_map]; exact hin)
 have e1 : turnX.2.2.2.map (takeN ratR.2.1) = tls := turn_map
 have e2 : takeN ratR.2.1 (giveN (intV n)) = intV n := take_int
 rw [e1, e2] at h
 have e3 : letV sgQ (plV tls turnX.2.1) turnX.2.1 (intV n) (turnX.2.1.length - 1) = a := hl
 rw [e3] at h
 have e4 : imgV (turnX.2.1, turnX.2.2.1) tls (intV n) a = intV q := hi
 rw [e4] at h
 exact h
theorem ct_bLists (a b : List (List Int)) : Ct Tryz.prog 51 [kRd (eL (eL eI)) a, kRd (eL (eL eI)) b] (kB (decide (a = b))) := by
 refine Ct.mk Tryz.func51 rfl Tryz.ntmps51 rfl (fun w J => ?_); refine Tr.fact (s := 0) rfl (fun _ _ h => lenB h) (fun hb => ?_); refine jx15 ?_; refine jq ?_ ?_
 ·intro h1
  have hne : a ≠ b := fun e => h1 (by rw [e])
  refine jx7 ?_; exact Rts.res1 (fn := Tryz.f51) rfl (.b rfl (by symm; rw [decide_eq_false_iff_not]; exact hne) <| .nil)
 ·intro h1
  replace h1 := Classical.not_not.1 h1
  have hll : a.length = b.length := by omega
  refine jx8 ?_
  refine Tr.for1 (σ := Nat) [⟨0, true, _, _⟩, ⟨1, true, _, _⟩] [] (fun k => [⟨5, true, [], kI (k : Int)⟩]) (fun k => []) (fun k => k ≤ a.length ∧ ∀ i, i < k → nth a i = nth b i) (fun k => ∀ i, i < a.length → nth a i = nth b i) (fun k => a.length - k) (0) ⟨Nat.zero_le _, fun i h => absurd h (Nat.not_lt_zero _)⟩ (Ent.mk (.i rfl zi <| zk) (.nil) rfl) ?_ ?_
  ·rintro k ⟨hk, hR⟩
   refine jn ?_; refine jx9 ?_; refine jq ?_ ?_
   ·intro h4
    refine jx5 ?_; refine Tr.draw 8 mixed (by kernel_rfl) ?_; refine jx9 ?_; refine jc (ct_Ints (nth a k) (nth b k)) ?_; refine jx3 ?_; refine Tr.cnd rfl ?_ ?_
    ·intro h6
     have hne : a ≠ b := fun e => by subst e; simp at h6
     refine jx12 ?_; exact Rts.res1 (fn := Tryz.f51) rfl (.b rfl (by symm; rw [decide_eq_false_iff_not]; exact hne) <| .nil)
    ·intro h6
     have hkk : nth a k = nth b k := by simpa using h6
     refine jx8 ?_
     exact End.lp (k + 1) ⟨by omega, fun i hi => by by_cases e : i = k; (rw [e]; exact hkk); exact hR i zo⟩ zo (Ent.mk (.i rfl zi <| zk) (.nil) rfl)
   ·intro h4
    replace h4 := Int.not_lt.1 h4
    refine jx4 ?_
    exact End.cut (k) (fun i hi => hR i zo) (Ent.mk (.i rfl zi <| zk) (.nil) rfl)
  ·rintro k hE
   refine je ?_; refine jx7 ?_; exact Rts.res1 (fn := Tryz.f51) rfl (.b rfl (by symm; rw [decide_eq_true_eq]; exact ext_nth hll hE) <| .nil)

theorem ct_bSameNum (a b : NumT) : Ct Tryz.prog 18 [kRd eNum a, kRd eNum b] (kB (decide (a = b))) := by
 refine Ct.mk Tryz.func18 rfl Tryz.ntmps18 rfl (fun w J => ?_); refine jx2 ?_; refine jb 2 rfl ?_; refine jb 3 rfl ?_; refine jx9 ?_; refine tO (ok_call (fun hp => ct_bLists _ _) (.a rfl uu <| .a rfl uu <| .nil)) rfl rfl ?_; refine jx5 ?_; refine TrL.gd rfl rfl rfl (ok_call (fun hp => ct_Ints a.2 b.2) (.a rfl id <| .a rfl id <| .nil)) rfl rfl ?_; refine jx5 ?_; exact Rts.res1 (fn := Tryz.f18) rfl (.b rfl (by rw [← Bool.decide_and]; exact decide_eq_decide.2 (Prod.ext_iff).symm) <| .nil)

theorem ct_turn  : Ct Tryz.prog 64 [] (kRd eX turnX) := by
 refine Ct.mk Tryz.func64 rfl Tryz.ntmps64 rfl (fun w J => ?_); refine jx2 ?_; refine ja 0 ?_; refine jx4 ?_; refine jc ct_rRational ?_; refine TrL.new (ok_bsl eI 2 (fun hp => .cons rfl <| .cons rfl <| .nil) rfl rfl rfl rfl) rfl rfl rfl rfl ?_; refine TrL.frz 2 [2] ⟨rfl, trivial⟩ (by decide) rfl ?_; refine jl ?_; refine TrL.new (ok_bsl eI 3 (fun hp => .cons rfl <| .cons rfl <| .nil) rfl rfl rfl rfl) rfl rfl rfl rfl ?_; refine TrL.frz 3 [3] ⟨rfl, trivial⟩ (by decide) rfl ?_; refine jl ?_; refine jc (ct_rWhole 3 zo) ?_; refine jc (ct_rWhole 2 zo) ?_; refine TrL.new (ok_bsl eNum 6 (fun hp => .cons rfl <| .cons rfl <| .nil) rfl rfl rfl rfl) rfl rfl rfl rfl ?_
 refine TrL.frz 6 [6] ⟨rfl, trivial⟩ (by decide) rfl ?_; refine jl ?_; refine tO (ok_build (fun hp => .cons rfl rfl rfl <| .cons rfl rfl rfl <| .cons rfl rfl rfl <| .cons rfl rfl rfl <| .nil)) rfl rfl ?_; refine jx4 ?_; exact Rts.resC1 (fn := Tryz.f64) rfl rfl (aggRd rfl (by rw [give_int, give_int]))

theorem ct_awake  : Ct Tryz.prog 12 [] (kB true) := by
 have hw : ∀ n : Int, -1000 ≤ n ∧ n ≤ 1000 → Ct Tryz.prog 28 [kI n] (kRd eNum (giveN (intV n))) := fun n hn => by have h := ct_rWhole n zo; rw [give_int] at h; exact h
 refine Ct.mk Tryz.func12 rfl Tryz.ntmps12 rfl (fun w J => ?_); refine jx7 ?_; refine jc ct_turn ?_; refine jc (hw 1 zo) ?_; refine jc (ct_apT 1 0 3 zo turn_in1 turn_l1 turn_i1) ?_; refine jx4 ?_; refine ja 1 ?_; refine jx7 ?_; refine jc ct_turn ?_; refine jc (hw 3 zo) ?_; refine jc (ct_apT 3 1 0 zo turn_in3 turn_l3 turn_i3) ?_; refine jx4 ?_; refine ja 4 ?_; refine jx6 ?_; refine Tr.draw 18 mixed (by kernel_rfl) ?_; refine jx8 ?_; refine RunD.gd rfl rfl rfl (ok_call (fun hp => hw 3 zo) (.a rfl uu <| .nil)) rfl rfl ?_; refine RunD.gd rfl rfl rfl (ok_call (fun hp => ct_bSameNum _ _) (.s rfl id rfl <| .a rfl id <| .nil)) rfl rfl ?_
 refine jx7 ?_; refine RunD.gd rfl rfl rfl (ok_call (fun hp => hw 0 zo) (.a rfl uu <| .nil)) rfl rfl ?_; refine jx1 ?_; refine TrL.gd rfl rfl rfl (ok_call (fun hp => ct_bSameNum _ _) (.s rfl id rfl <| .a rfl id <| .nil)) rfl rfl ?_; refine jx9 ?_; exact Rts.res1 (fn := Tryz.f12) rfl (.b rfl (by simp) <| .nil)

end Go.Fl

/- Intervals of a number: Horner's rule with ends, halving. Plain Lean, no program in sight. -/
namespace Go.Fl
def min4 (a b c d : Int) : Int := min (min a b) (min c d)
def max4 (a b c d : Int) : Int := max (max a b) (max c d)
theorem lin_hull {A B x y : Int} (h1 : A ≤ x) (h2 : x ≤ B) : min (A * y) (B * y) ≤ x * y ∧ x * y ≤ max (A * y) (B * y) := by
 rcases Int.le_total 0 y with hy | hy
 ·have e1 := Int.mul_le_mul_of_nonneg_right h1 hy
  have e2 := Int.mul_le_mul_of_nonneg_right h2 hy
  omega
 ·have e1 := Int.mul_le_mul_of_nonpos_right h1 hy
  have e2 := Int.mul_le_mul_of_nonpos_right h2 hy
  omega
theorem hull {A B L H x y : Int} (h1 : A ≤ x) (h2 : x ≤ B) (h3 : L ≤ y) (h4 : y ≤ H) : min4 (A * L) (A * H) (B * L) (B * H) ≤ x * y ∧ x * y ≤ max4 (A * L) (A * H) (B * L) (B * H) := by
 have e1 := lin_hull (y := y) h1 h2
 have e2 := lin_hull (y := A) h3 h4
 have e3 := lin_hull (y := B) h3 h4
 rw [Int.mul_comm L, Int.mul_comm H, Int.mul_comm y] at e2 e3
 unfold min4 max4
 omega
theorem min4_le {A B L H : Int} : ∃ x y, (x = A ∨ x = B) ∧ (y = L ∨ y = H) ∧ min4 (A * L) (A * H) (B * L) (B * H) = x * y := by
 unfold min4
 have h : min (min (A * L) (A * H)) (min (B * L) (B * H)) = A * L ∨ min (min (A * L) (A * H)) (min (B * L) (B * H)) = A * H ∨ min (min (A * L) (A * H)) (min (B * L) (B * H)) = B * L ∨ min (min (A * L) (A * H)) (min (B * L) (B * H)) = B * H := by omega
 rcases h with h | h | h | h
 ·exact ⟨A, L, .inl rfl, .inl rfl, h⟩
 ·exact ⟨A, H, .inl rfl, .inr rfl, h⟩
 ·exact ⟨B, L, .inr rfl, .inl rfl, h⟩
 ·exact ⟨B, H, .inr rfl, .inr rfl, h⟩
theorem max4_ge {A B L H : Int} : ∃ x y, (x = A ∨ x = B) ∧ (y = L ∨ y = H) ∧ max4 (A * L) (A * H) (B * L) (B * H) = x * y := by
 unfold max4
 have h : max (max (A * L) (A * H)) (max (B * L) (B * H)) = A * L ∨ max (max (A * L) (A * H)) (max (B * L) (B * H)) = A * H ∨ max (max (A * L) (A * H)) (max (B * L) (B * H)) = B * L ∨ max (max (A * L) (A * H)) (max (B * L) (B * H)) = B * H := by omega
 rcases h with h | h | h | h
 ·exact ⟨A, L, .inl rfl, .inl rfl, h⟩
 ·exact ⟨A, H, .inl rfl, .inr rfl, h⟩
 ·exact ⟨B, L, .inr rfl, .inl rfl, h⟩
 ·exact ⟨B, H, .inr rfl, .inr rfl, h⟩
theorem mul_min' {Q a b : Int} (h : 0 ≤ Q) : min (Q * a) (Q * b) = Q * min a b := by
 rcases Int.le_total a b with h1 | h1
 ·have := Int.mul_le_mul_of_nonneg_left h1 h
  rw [Int.min_eq_left h1, Int.min_eq_left this]
 ·have := Int.mul_le_mul_of_nonneg_left h1 h
  rw [Int.min_eq_right h1, Int.min_eq_right this]
theorem mul_max' {Q a b : Int} (h : 0 ≤ Q) : max (Q * a) (Q * b) = Q * max a b := by
 rcases Int.le_total a b with h1 | h1
 ·have := Int.mul_le_mul_of_nonneg_left h1 h
  rw [Int.max_eq_right h1, Int.max_eq_right this]
 ·have := Int.mul_le_mul_of_nonneg_left h1 h
  rw [Int.max_eq_left h1, Int.max_eq_left this]
theorem min4_mul {Q a b c d : Int} (h : 0 ≤ Q) : min4 (Q * a) (Q * b) (Q * c) (Q * d) = Q * min4 a b c d := by
 unfold min4; rw [mul_min' h, mul_min' h, mul_min' h]
theorem max4_mul {Q a b c d : Int} (h : 0 ≤ Q) : max4 (Q * a) (Q * b) (Q * c) (Q * d) = Q * max4 a b c d := by
 unfold max4; rw [mul_max' h, mul_max' h, mul_max' h]
structure Iv where
 lo : Int
 hi : Int
 den : Int
def enc (I : Iv) : List Int → Int × Int × Int
 | [] => (0, 0, 1)
 | c :: cs =>
  let e := enc I cs
  (min4 (e.1 * I.lo) (e.1 * I.hi) (e.2.1 * I.lo) (e.2.1 * I.hi) + c * (e.2.2 * I.den), max4 (e.1 * I.lo) (e.1 * I.hi) (e.2.1 * I.lo) (e.2.1 * I.hi) + c * (e.2.2 * I.den), e.2.2 * I.den)
structure Iv.Ok (I : Iv) : Prop where
 le : I.lo ≤ I.hi
 pos : 0 < I.den
theorem enc_d {I : Iv} : ∀ {cs : List Int}, (enc I cs).2.2 = I.den ^ cs.length
 | [] => by simp [enc]
 | c :: cs => by rw [enc, List.length_cons, Int.pow_succ, ← enc_d]
theorem enc_le {I : Iv} : ∀ {cs : List Int}, (enc I cs).1 ≤ (enc I cs).2.1
 | [] => Int.le_refl _
 | c :: cs => by
  rw [enc]
  simp only
  have : min4 ((enc I cs).1 * I.lo) ((enc I cs).1 * I.hi) ((enc I cs).2.1 * I.lo) ((enc I cs).2.1 * I.hi) ≤ max4 ((enc I cs).1 * I.lo) ((enc I cs).1 * I.hi) ((enc I cs).2.1 * I.lo) ((enc I cs).2.1 * I.hi) := by unfold min4 max4; omega
  omega
structure Iv.In (I' I : Iv) (m : Int) : Prop where
 m0 : 0 < m
 den : I'.den = m * I.den
 lo : m * I.lo ≤ I'.lo
 hi : I'.hi ≤ m * I.hi
theorem enc_in {I' I : Iv} {m : Int} (h : I'.In I m) (h' : I'.lo ≤ I'.hi) : ∀ {cs : List Int}, m ^ cs.length * (enc I cs).1 ≤ (enc I' cs).1 ∧ (enc I' cs).2.1 ≤ m ^ cs.length * (enc I cs).2.1 ∧ (enc I' cs).2.2 = m ^ cs.length * (enc I cs).2.2
 | [] => by simp [enc]
 | c :: cs => by
  obtain ⟨h1, h2, h3⟩ := enc_in h h' (cs := cs)
  have hle := enc_le (I := I') (cs := cs)
  have hm := h.m0
  rw [enc, enc, List.length_cons, Int.pow_succ]
  simp only
  generalize (enc I cs).1 = A at *
  generalize (enc I cs).2.1 = B at *
  generalize (enc I cs).2.2 = D at *
  generalize (enc I' cs).1 = A' at *
  generalize (enc I' cs).2.1 = B' at *
  generalize (enc I' cs).2.2 = D' at *
  have hq : 0 < m ^ cs.length := Int.pow_pos hm
  have hQ := Int.mul_pos hq hm
  generalize m ^ cs.length = q at *
  have hd : D' * I'.den = q * m * (D * I.den) := by rw [h3, h.den]; simp only [Int.mul_left_comm, Int.mul_comm]
  have hc : c * (D' * I'.den) = q * m * (c * (D * I.den)) := by rw [hd]; simp only [Int.mul_left_comm, Int.mul_comm]
  have e : ∀ x y : Int, q * x * (m * y) = q * m * (x * y) := fun x y => by simp only [Int.mul_left_comm, Int.mul_comm]
  have key : ∀ x y, (x = A' ∨ x = B') → (y = I'.lo ∨ y = I'.hi) → min4 (q * A * (m * I.lo)) (q * A * (m * I.hi)) (q * B * (m * I.lo)) (q * B * (m * I.hi)) ≤ x * y ∧ x * y ≤ max4 (q * A * (m * I.lo)) (q * A * (m * I.hi)) (q * B * (m * I.lo)) (q * B * (m * I.hi)) := fun x y hx hy => by
   have b1 : q * A ≤ x ∧ x ≤ q * B := by rcases hx with rfl | rfl <;> omega
   have b2 : m * I.lo ≤ y ∧ y ≤ m * I.hi := by have := h.lo; have := h.hi; rcases hy with rfl | rfl <;> omega
   exact hull b1.1 b1.2 b2.1 b2.2
  simp only [e, min4_mul (Int.le_of_lt hQ), max4_mul (Int.le_of_lt hQ)] at key
  refine ⟨?_, ?_, hd⟩
  ·obtain ⟨x, y, hx, hy, hxy⟩ := min4_le (A := A') (B := B') (L := I'.lo) (H := I'.hi)
   have := (key x y hx hy).1
   rw [hxy, Int.mul_add, hc]; omega
  ·obtain ⟨x, y, hx, hy, hxy⟩ := max4_ge (A := A') (B := B') (L := I'.lo) (H := I'.hi)
   have := (key x y hx hy).2
   rw [hxy, Int.mul_add, hc]; omega
end Go.Fl

/- Signs of numbers: the intervals are halved until one decides. Plain Lean, no program in sight. -/
namespace Go.Fl
def hvP (a b : Int) : List Int → Int × Int
 | [] => (0, 1)
 | c :: cs => ((hvP a b cs).1 * a + c * (hvP a b cs).2, (hvP a b cs).2 * b)
def sgn (z : Int) : Int := cmpZ z 0
def halveI (p : List Int) (I : Iv) : Iv :=
 if sgn (hvP I.lo I.den p).1 * sgn (hvP (I.lo + I.hi) (I.den + I.den) p).1 < 0 then ⟨I.lo + I.lo, I.lo + I.hi, I.den + I.den⟩ else ⟨I.lo + I.hi, I.hi + I.hi, I.den + I.den⟩
theorem halve_ok {p : List Int} {I : Iv} (h : I.Ok) : (halveI p I).Ok := by
 have h1 := h.le; have h2 := h.pos
 unfold halveI
 split
 ·exact ⟨by simp only; omega, by simp only; omega⟩
 ·exact ⟨by simp only; omega, by simp only; omega⟩
theorem halve_in {p : List Int} {I : Iv} (h : I.Ok) : (halveI p I).In I 2 := by
 have h1 := h.le
 unfold halveI
 split
 ·exact ⟨by omega, by simp only; omega, by simp only; omega, by simp only; omega⟩
 ·exact ⟨by omega, by simp only; omega, by simp only; omega, by simp only; omega⟩
theorem Iv.In.trans {A B C : Iv} {m n : Int} (h1 : A.In B m) (h2 : B.In C n) : A.In C (m * n) := by
 have a1 := h1.m0; have a2 := h2.m0
 refine ⟨Int.mul_pos a1 a2, by rw [h1.den, h2.den, Int.mul_assoc], ?_, ?_⟩
 ·have := Int.mul_le_mul_of_nonneg_left h2.lo (Int.le_of_lt a1)
  have := h1.lo
  rw [Int.mul_assoc]; omega
 ·have := Int.mul_le_mul_of_nonneg_left h2.hi (Int.le_of_lt a1)
  have := h1.hi
  rw [Int.mul_assoc]; omega
def ivK (p : List Int) (I : Iv) : Nat → Iv
 | 0 => I
 | k + 1 => halveI p (ivK p I k)
theorem ivK_ok {p : List Int} {I : Iv} (h : I.Ok) : ∀ {k : Nat}, (ivK p I k).Ok
 | 0 => h
 | _ + 1 => halve_ok (ivK_ok h)
theorem ivK_in {p : List Int} {I : Iv} (h : I.Ok) {j : Nat} : ∀ {n : Nat}, ∃ m, (ivK p I (j + n)).In (ivK p I j) m
 | 0 => ⟨1, by omega, by rw [Nat.add_zero]; omega, by rw [Nat.add_zero]; omega, by rw [Nat.add_zero]; omega⟩
 | n + 1 => by
  obtain ⟨m, hm⟩ := ivK_in h (j := j) (n := n)
  exact ⟨2 * m, (halve_in (ivK_ok h)).trans hm⟩
section
variable {p : List Int} {I : Iv} {cs : List Int} {j k : Nat}
theorem encK_pos (h : I.Ok) (hjk : j ≤ k) (hp : 0 < (enc (ivK p I j) cs).1) : 0 < (enc (ivK p I k) cs).1 := by
 obtain ⟨n, rfl⟩ := Nat.exists_eq_add_of_le hjk
 obtain ⟨m, hm⟩ := ivK_in (p := p) h (j := j) (n := n)
 have h1 := (enc_in hm (ivK_ok h).le (cs := cs)).1
 have h2 := Int.mul_pos (show 0 < m ^ cs.length from Int.pow_pos hm.m0) hp
 omega
theorem encK_neg (h : I.Ok) (hjk : j ≤ k) (hp : (enc (ivK p I j) cs).2.1 < 0) : (enc (ivK p I k) cs).2.1 < 0 := by
 obtain ⟨n, rfl⟩ := Nat.exists_eq_add_of_le hjk
 obtain ⟨m, hm⟩ := ivK_in (p := p) h (j := j) (n := n)
 have h1 := (enc_in hm (ivK_ok h).le (cs := cs)).2.1
 have h2 := Int.mul_neg_of_pos_of_neg (show 0 < m ^ cs.length from Int.pow_pos hm.m0) hp
 omega
theorem encK_not (h : I.Ok) (hp : 0 < (enc (ivK p I j) cs).1) (hn : (enc (ivK p I k) cs).2.1 < 0) : False := by
 have h1 := encK_pos h (Nat.le_max_left j k) hp
 have h2 := encK_neg h (Nat.le_max_right j k) hn
 have h3 := enc_le (I := ivK p I (max j k)) (cs := cs)
 omega
end
open Classical in
noncomputable def sgnF (p : List Int) (I : Iv) (cs : List Int) : Int := if ∃ k, 0 < (enc (ivK p I k) cs).1 then 1 else if ∃ k, (enc (ivK p I k) cs).2.1 < 0 then -1 else 0
theorem sgnF_pos {p : List Int} {I : Iv} {cs : List Int} {k : Nat} (h : 0 < (enc (ivK p I k) cs).1) : sgnF p I cs = 1 := if_pos ⟨k, h⟩
theorem sgnF_neg {p : List Int} {I : Iv} {cs : List Int} {k : Nat} (hI : I.Ok) (h : (enc (ivK p I k) cs).2.1 < 0) : sgnF p I cs = -1 := by
 unfold sgnF
 rw [if_neg (fun ⟨j, hj⟩ => encK_not hI hj h), if_pos ⟨k, h⟩]
end Go.Fl
