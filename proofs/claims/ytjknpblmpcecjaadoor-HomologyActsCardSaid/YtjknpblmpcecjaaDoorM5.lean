/- Laws on walking typed knowledge through code, and contracts. -/
import Derived.Test.YtjknpblmpcecjaaDoorM4
import Derived.ProofKit
import Derived.LaidMore
import Derived.OpenShut
import Derived.Lay
import Derived.LaidOnce
import Derived.SevenTiedAt
import Derived.Stop.Joined

/- The law of the form. -/
namespace Go.Fl
open Go Go.Proofs

abbrev PairT := List Int × List Int × Int
def ePair : Enc PairT := eC (fun v : PairT => (v.1, v.2.1, v.2.2, ())) (eP (eL eI) (eP (eL eI) (eP eI eU)))
instance {v : PairT} : CellsK (kRd ePair v) [kRd (eL eI) (v.1), kRd (eL eI) (v.2.1), kI (v.2.2)] := inferInstanceAs (CellsK (kRd (eC (fun v : PairT => (v.1, v.2.1, v.2.2, ())) (eP (eL eI) (eP (eL eI) (eP eI eU)))) v) _)
instance {v : PairT} {tl : List Know} : EncCells ePair v tl (kRd (eL eI) (v.1) :: kRd (eL eI) (v.2.1) :: kI (v.2.2) :: tl) := inferInstanceAs (EncCells (eC (fun v : PairT => (v.1, v.2.1, v.2.2, ())) (eP (eL eI) (eP (eL eI) (eP eI eU)))) v tl _)
instance {v : PairT} : Norm ePair v (kRd ePair v) := ⟨fun h => h⟩
instance {v : PairT} : FieldP ePair v 0 (eL eI) (v.1) 0 := inferInstanceAs (FieldP (eC (fun v : PairT => (v.1, v.2.1, v.2.2, ())) (eP (eL eI) (eP (eL eI) (eP eI eU)))) v 0 _ _ _)
instance {v : PairT} : FieldP ePair v 1 (eL eI) (v.2.1) 1 := inferInstanceAs (FieldP (eC (fun v : PairT => (v.1, v.2.1, v.2.2, ())) (eP (eL eI) (eP (eL eI) (eP eI eU)))) v 1 _ _ _)
instance {v : PairT} : FieldP ePair v 2 eI (v.2.2) 2 := inferInstanceAs (FieldP (eC (fun v : PairT => (v.1, v.2.1, v.2.2, ())) (eP (eL eI) (eP (eL eI) (eP eI eU)))) v 2 _ _ _)

/-- A list of which the first i elements are new. -/
def updTo (xs : List Int) (F : Nat → Int) (i : Nat) : List Int := tab xs.length (fun j => if j < i then F j else nth xs j)
theorem updTo_len {xs : List Int} {F : Nat → Int} {i : Nat} : (updTo xs F i).length = xs.length := tab_len
theorem updTo_zero {xs : List Int} {F : Nat → Int} : xs = updTo xs F 0 := by
  refine ext_nth updTo_len.symm fun i hi => ?_
  unfold updTo; rw [nth_tab hi, if_neg (by omega)]
theorem nth_updTo {xs : List Int} {F : Nat → Int} {i j : Nat} (h : j < xs.length) : nth (updTo xs F i) j = if j < i then F j else nth xs j := nth_tab h
theorem updTo_succ {xs : List Int} {F : Nat → Int} {i : Nat} : (updTo xs F i).set i (F i) = updTo xs F (i + 1) := by
  unfold updTo
  rw [tab_set]
  refine tab_congr fun j _ => ?_
  by_cases h : j = i
  · rw [if_pos h, if_pos (by omega), h]
  · rw [if_neg h]
    by_cases h2 : j < i
    · rw [if_pos h2, if_pos (by omega)]
    · rw [if_neg h2, if_neg (by omega)]
theorem updTo_at {xs : List Int} {F : Nat → Int} {i : Nat} (h : i < xs.length) : nth (updTo xs F (i + 1)) i = F i := by rw [nth_updTo h, if_pos (by omega)]
theorem ct_hSquareG (o : Ori) (i : Int) (v : Valid o) (h0 : 0 ≤ i) (h1 : i < o.1.length) : Ct Tryd.prog 23 [kRd eO o, kI i] (kTup [kRd (eL eI) (sqL o i), kI 0]) := by
  have := ct_hSquare o i
  have e : sqE o i = 0 := by unfold sqE; rw [orE_r (chkO_of v), if_pos ⟨h0, h1⟩]
  rwa [if_pos e, e] at this
theorem sqL_bnd {o : Ori} {q : Int} (i : Nat) : -2 ≤ nth (sqL o q) i ∧ nth (sqL o q) i ≤ 2 := by
  unfold sqL
  by_cases h : i < 2 * o.1.length
  · rw [nth_tab h]
    have : -2 ≤ sqI o q i ∧ sqI o q i ≤ 2 := by unfold sqI; (repeat' split) <;> omega
    rw [W_in (by omega) (by omega)]; exact this
  · (have e : nth (tab (2 * o.1.length) (fun j => W (sqI o q j))) i = 0 := (by unfold nth; rw [List.getD_eq_getElem?_getD, List.getElem?_eq_none (by rw [tab_len]; omega)]; rfl)); rw [e]; decide
theorem orE00 : orE 0 0 = 0 := orE_r rfl
theorem nth_out {xs : List Int} {i : Nat} (h : xs.length ≤ i) : nth xs i = 0 := by
  unfold nth; rw [List.getD_eq_getElem?_getD, List.getElem?_eq_none h]; rfl
theorem form_law {o : Ori} (v : Valid o) {A B C D : List Int} {k q : Int} (cA : Cyc o A) (cB : Cyc o B) (hq : Sq o.1.length q) (lC : C.length = 2 * o.1.length) (lD : D.length = 2 * o.1.length)
    (hC : ∀ i, i < 2 * o.1.length → nth C i = nth A i + k * nth (sqL o q) i) (hD : ∀ i, i < 2 * o.1.length → nth D i = nth B i + nth C i)
    (rC : ∀ i, i < 2 * o.1.length → -1000000 ≤ nth C i ∧ nth C i ≤ 1000000) (rD : ∀ i, i < 2 * o.1.length → -1000000 ≤ nth D i ∧ nth D i ≤ 1000000) :
    Cyc o C ∧ Cyc o D ∧ Cyc o (sqL o q) ∧ isI o B A = -isI o A B ∧ isI o C B = isI o A B ∧ isI o A D = isI o A B ∧ isI o (sqL o q) B = 0 := by
  have out : ∀ {X : List Int}, X.length = 2 * o.1.length → (∀ i, i < 2 * o.1.length → -1000000 ≤ nth X i ∧ nth X i ≤ 1000000) → ∀ i, -1000000 ≤ nth X i ∧ nth X i ≤ 1000000 := fun hl h i => by
    by_cases hi : i < 2 * o.1.length
    · exact h i hi
    · rw [nth_out (by omega)]; omega
  have cC : Cyc o C := ⟨lC, out lC rC, fun j hj => by rw [rbS_lin v hC, rbS_sq v hq hj, cA.bnd j hj]; omega⟩
  have hD' : ∀ i, i < 2 * o.1.length → nth D i = nth B i + 1 * nth C i := fun i hi => by rw [hD i hi, Int.one_mul]
  have cD : Cyc o D := ⟨lD, out lD rD, fun j hj => by rw [rbS_lin v hD', cB.bnd j hj, cC.bnd j hj]; rfl⟩
  have cS : Cyc o (sqL o q) := ⟨tab_len, fun i => by have := sqL_bnd (o := o) (q := q) i; omega, fun j hj => rbS_sq v hq hj⟩
  have a1 := isI_anti v cB cA
  have a2 := isI_lin v cB hC
  have a3 := isI_lin v cA hC
  have a4 := isI_lin v cA hD'
  have a5 := isI_anti v cA cD
  rw [isI_sq v cB hq, Int.mul_zero] at a2
  rw [isI_sq v cA hq, Int.mul_zero, isI_self v cA] at a3
  exact ⟨cC, cD, cS, a1, by omega, by omega, isI_sq v cB hq⟩
theorem mul_bnd {k s : Int} (hk : -128 ≤ k ∧ k ≤ 127) (hs : -2 ≤ s ∧ s ≤ 2) : -256 ≤ k * s ∧ k * s ≤ 256 := by
  obtain rfl | rfl | rfl | rfl | rfl : s = -2 ∨ s = -1 ∨ s = 0 ∨ s = 1 ∨ s = 2 := by omega
  all_goals omega

set_option maxRecDepth 100000 in
theorem ct_CopyIntsN (l : List Int) (hn : l.length ≤ 1000000) : CtN Tryd.prog 25 [kRd (eL eI) l] (fun t => kOsl t l.length) (cArr false 3 eI l l.length) := by
  refine CtN.mk Tryd.func25 rfl Tryd.ntmps25 rfl (fun w J => ?_)
  refine Tr.seq ?_
  refine Tr.rg ?_
  refine TrL.op (ok_assign rfl (fun _ => rfl)) rfl rfl ?_
  refine TrL.fin ?_
  refine End.nxt ?_
  refine Tr.seq ?_
  refine Tr.rg ?_
  refine TrL.new (ok_bsl0 eI 3) rfl rfl rfl rfl ?_
  refine TrL.op (ok_move rfl (fun _ => rfl)) rfl rfl ?_
  refine TrL.app rfl rfl rfl rfl rfl rfl rfl rfl (by first | omega | (simp only [List.length_cons, List.length_nil]; omega)) (by first | omega | (simp only [List.length_cons, List.length_nil]; omega)) ?_
  refine TrL.norm (S' := [⟨_, _, _, _⟩, ⟨_, _, _, _⟩, ⟨_, _, _, _⟩, ⟨_, _, _, _⟩, ⟨_, _, _, _⟩]) rfl rfl ?_
  refine TrL.op (ok_assign rfl (fun _ => rfl)) rfl rfl ?_
  refine TrL.fin ?_
  refine End.nxt ?_
  refine Tr.ret ?_
  exact Rts.resN (fn := Tryd.f25) (u := 3) rfl rfl (arr_res (by first | rfl | omega | (simp; done) | (simp; omega) | assumption) (by first | rfl | omega | (simp; done) | (simp; omega) | assumption)) (osl_res (by first | rfl | omega | (simp; done) | (simp; omega) | assumption)) inferInstance

set_option maxRecDepth 100000 in
theorem ct_HomologyForm (o : Ori) (p : PairT) (k : Int) (hk : -128 ≤ k ∧ k ≤ 127) : Ct Tryd.prog 4 [kRd eO o, kRd ePair p, kInt .i8 k] (kB true) := by
  refine Ct.mk Tryd.func4 rfl Tryd.ntmps4 rfl (fun w J => ?_)
  refine Tr.seq ?_
  refine Tr.rg ?_
  refine TrL.new (ok_box 3 rfl (fun _ => rfl) rfl) rfl rfl rfl rfl ?_
  refine TrL.new (ok_box 4 rfl (fun _ => rfl) rfl) rfl rfl rfl rfl ?_
  refine TrL.op (ok_assign rfl (fun _ => rfl)) rfl rfl ?_
  refine TrL.fin ?_
  refine End.nxt ?_
  refine Tr.seq ?_
  refine Tr.seq ?_
  refine Tr.rg ?_
  refine TrL.op (ok_call (fun hp => ct_awake) (.nil)) rfl rfl ?_
  refine TrL.op (ok_not rfl (fun _ => rfl)) rfl rfl ?_
  refine TrL.fin ?_
  refine End.nxt ?_
  refine Tr.cnd rfl ?_ ?_
  · intro h1
    simp at h1
  · intro h1
    refine Tr.skip ?_
    refine End.nxt ?_
    refine Tr.seq ?_
    refine Tr.seq ?_
    refine Tr.rg ?_
    refine TrL.op (ok_ldBS rfl (fun _ => rfl)) rfl rfl ?_
    refine TrL.op (ok_call (fun hp => ct_Small _) (.s rfl (fun _ => rfl) rfl <| .nil)) rfl rfl ?_
    refine TrL.op (ok_not rfl (fun _ => rfl)) rfl rfl ?_
    refine TrL.op (ok_move rfl (fun _ => rfl)) rfl rfl ?_
    refine TrL.gd rfl rfl rfl (ok_fldO rfl (fun _ => rfl)) rfl rfl ?_
    refine TrL.gd rfl rfl rfl (ok_ldB rfl id rfl) rfl rfl ?_
    refine TrL.gd rfl rfl rfl (ok_call (fun hp => ct_short _) (.a rfl id <| .nil)) rfl rfl ?_
    refine TrL.gd rfl rfl rfl (ok_not rfl id) rfl rfl ?_
    refine TrL.op (ok_or rfl (fun _ => rfl) rfl (fun hp h => gdF2 ((fun _ => rfl) hp) h)) rfl rfl ?_
    refine TrL.op (ok_move rfl (fun _ => rfl)) rfl rfl ?_
    refine TrL.gd rfl rfl rfl (ok_fldO rfl (fun _ => rfl)) rfl rfl ?_
    refine TrL.gd rfl rfl rfl (ok_ldB rfl id rfl) rfl rfl ?_
    refine TrL.gd rfl rfl rfl (ok_call (fun hp => ct_short _) (.a rfl id <| .nil)) rfl rfl ?_
    refine TrL.gd rfl rfl rfl (ok_not rfl id) rfl rfl ?_
    refine TrL.op (ok_or rfl (fun _ => rfl) rfl (fun hp h => gdF2 ((fun _ => rfl) hp) h)) rfl rfl ?_
    refine TrL.op (ok_move rfl (fun _ => rfl)) rfl rfl ?_
    refine TrL.gd rfl rfl rfl (ok_ldBS rfl (fun _ => rfl)) rfl rfl ?_
    refine TrL.gd rfl rfl rfl (ok_fldO rfl (fun _ => rfl)) rfl rfl ?_
    refine TrL.gd rfl rfl rfl (ok_ldB rfl id rfl) rfl rfl ?_
    refine TrL.gd rfl rfl rfl (ok_fldO rfl (fun _ => rfl)) rfl rfl ?_
    refine TrL.gd rfl rfl rfl (ok_ldB rfl id rfl) rfl rfl ?_
    refine TrL.gd rfl rfl rfl (ok_bslJ (eL eI) (fun hp => .consG rfl (id hp) <| .consG rfl (id hp) <| .nil) rfl rfl rfl rfl) rfl rfl ?_
    refine TrL.gd rfl rfl rfl (ok_call (fun hp => ct_lcycles _ _) (.s rfl id rfl <| .a rfl id <| .nil)) rfl rfl ?_
    refine TrL.gd rfl rfl rfl (ok_neq rfl id rfl (fun _ => rfl)) rfl rfl ?_
    refine TrL.op (ok_or rfl (fun _ => rfl) rfl (fun hp h => gdF2 ((fun _ => rfl) hp) h)) rfl rfl ?_
    refine TrL.fin ?_
    refine End.nxt ?_
    refine Tr.cnd rfl ?_ ?_
    · intro h3
      try simp only [decide_eq_true_eq, decide_eq_false_iff_not, Bool.or_eq_true, Bool.not_eq_true', ne_eq, Nat.not_le] at h3
      refine Tr.seq ?_
      refine Tr.rg ?_
      refine TrL.op (ok_assign rfl (fun _ => rfl)) rfl rfl ?_
      refine TrL.fin ?_
      refine End.nxt ?_
      refine Tr.ret ?_
      refine Rts.thn ?_
      exact Rts.res1 (fn := Tryd.f4) rfl (.b rfl (by rfl) <| .nil)
    · intro h3
      try simp only [decide_eq_true_eq, decide_eq_false_iff_not, Bool.not_eq_false', Bool.or_eq_false_iff, ne_eq, Classical.not_not] at h3
      rw [chk2] at h3
      obtain ⟨⟨⟨hsm, hA20⟩, hB20⟩, hz⟩ := h3
      have v : Valid o := valid_of (orE_zero.1 hz).1
      have cA := (chkZ_cyc v).1 (orE_zero.1 (orE_zero.1 hz).2).1
      have cB := (chkZ_cyc v).1 (orE_zero.1 (orE_zero.1 hz).2).2
      have lA := cA.len
      have lB := cB.len
      have hv0 := v.pos
      have hv2 := v.le
      have lS : (sqL o (p.2.2 % (o.1.length : Int))).length = 2 * o.1.length := tab_len
      refine Tr.skip ?_
      refine End.nxt ?_
      refine Tr.seq ?_
      refine Tr.draw 12 mixed (by kernel_rfl) ?_
      refine RunD.op (ok_ldBS rfl (fun _ => rfl)) rfl rfl ?_
      refine RunD.op (ok_fldO rfl (fun _ => rfl)) rfl rfl ?_
      refine RunD.op (ok_ldB rfl (fun _ => rfl) rfl) rfl rfl ?_
      refine RunD.op (ok_fldO rfl (fun _ => rfl)) rfl rfl ?_
      refine RunD.op (ok_ldB rfl (fun _ => rfl) rfl) rfl rfl ?_
      refine RunD.op (ok_lenJ rfl (fun _ => rfl)) rfl rfl ?_
      refine RunD.op (ok_call (fun hp => ct_Mod _ _ (by omega) (by omega)) (.a rfl (fun _ => rfl) <| .a rfl (fun _ => rfl) <| .nil)) rfl rfl ?_
      refine RunD.op (ok_call (fun hp => ct_hSquareG _ _ v (Int.emod_nonneg _ (by omega)) (Int.emod_lt_of_pos _ (by omega))) (.s rfl (fun _ => rfl) rfl <| .a rfl (fun _ => rfl) <| .nil)) rfl rfl ?_
      refine RunD.op (ok_move rfl (fun _ => rfl)) rfl rfl ?_
      refine RunD.op (ok_ext rfl (fun _ => rfl) rfl) rfl rfl ?_
      refine RunD.op (ok_ext rfl (fun _ => rfl) rfl) rfl rfl ?_
      refine RunD.op (ok_assign rfl (fun _ => rfl)) rfl rfl ?_
      refine RunD.z ?_
      refine TrL.op (ok_assign rfl (fun _ => rfl)) rfl rfl ?_
      refine TrL.fin ?_
      refine End.nxt ?_
      refine Tr.seq ?_
      refine Tr.seq ?_
      refine Tr.rg ?_
      refine TrL.op (ok_move rfl (fun _ => rfl)) rfl rfl ?_
      refine TrL.op (ok_neq rfl (fun _ => rfl) rfl (fun _ => rfl)) rfl rfl ?_
      refine TrL.op (ok_move rfl (fun _ => rfl)) rfl rfl ?_
      refine TrL.gd rfl rfl rfl (ok_move rfl (fun _ => rfl)) rfl rfl ?_
      refine TrL.gd rfl rfl rfl (ok_lenJ rfl id) rfl rfl ?_
      refine TrL.gd rfl rfl rfl (ok_fldO rfl (fun _ => rfl)) rfl rfl ?_
      refine TrL.gd rfl rfl rfl (ok_ldB rfl id rfl) rfl rfl ?_
      refine TrL.gd rfl rfl rfl (ok_lenJ rfl id) rfl rfl ?_
      refine TrL.gd rfl rfl rfl (ok_neq rfl id rfl id) rfl rfl ?_
      refine TrL.op (ok_or rfl (fun _ => rfl) rfl (fun hp h => gdF2 ((fun _ => rfl) hp) h)) rfl rfl ?_
      refine TrL.fin ?_
      refine End.nxt ?_
      refine Tr.cnd rfl ?_ ?_
      · intro h6
        try simp only [decide_eq_true_eq, Bool.or_eq_true, ne_eq] at h6
        simp at h6
        omega
      · intro h6
        try simp only [decide_eq_false_iff_not, Bool.or_eq_false_iff, ne_eq, Classical.not_not] at h6
        refine Tr.skip ?_
        refine End.nxt ?_
        refine Tr.seq ?_
        refine Tr.draw 5 mixed (by kernel_rfl) ?_
        refine RunD.op (ok_fldO rfl (fun _ => rfl)) rfl rfl ?_
        refine RunD.op (ok_ldB rfl (fun _ => rfl) rfl) rfl rfl ?_
        refine RunD.new (ok_callN 71 (fun hp => ct_CopyIntsN _ (by omega)) (.a rfl (fun _ => rfl) <| .nil)) rfl rfl rfl rfl ?_
        refine RunD.op (ok_fldO rfl (fun _ => rfl)) rfl rfl ?_
        refine RunD.op (ok_ldB rfl (fun _ => rfl) rfl) rfl rfl ?_
        refine RunD.z ?_
        refine TrL.new (ok_callN 74 (fun hp => ct_CopyIntsN _ (by omega)) (.a rfl (fun _ => rfl) <| .nil)) rfl rfl rfl rfl ?_
        refine TrL.op (ok_assign rfl (fun _ => rfl)) rfl rfl ?_
        refine TrL.op (ok_assign rfl (fun _ => rfl)) rfl rfl ?_
        refine TrL.fin ?_
        refine End.nxt ?_
        refine Tr.seq ?_
        refine Tr.seq ?_
        refine Tr.rg ?_
        refine TrL.op (ok_assign rfl (fun _ => rfl)) rfl rfl ?_
        refine TrL.fin ?_
        refine End.nxt ?_
        refine Tr.for1 (σ := Nat) [⟨2, true, _, _⟩, ⟨3, true, _, _⟩, ⟨4, true, _, _⟩, ⟨7, true, _, _⟩, ⟨9, true, _, _⟩, ⟨10, true, _, _⟩] [⟨3, _, _⟩, ⟨4, _, _⟩] (fun i => [⟨11, true, [], kI (i : Int)⟩]) (fun i => [⟨71, [], cArr false 3 eI (updTo p.1 (fun j => nth p.1 j + k * nth (sqL o (p.2.2 % (o.1.length : Int))) j) i) p.1.length⟩, ⟨74, [], cArr false 3 eI (updTo p.2.1 (fun j => nth p.2.1 j + (nth p.1 j + k * nth (sqL o (p.2.2 % (o.1.length : Int))) j)) i) p.2.1.length⟩]) (fun i => i ≤ p.1.length ∧ ∀ j, j < i → (-1000000 ≤ (fun j => nth p.1 j + k * nth (sqL o (p.2.2 % (o.1.length : Int))) j) j ∧ (fun j => nth p.1 j + k * nth (sqL o (p.2.2 % (o.1.length : Int))) j) j ≤ 1000000) ∧ -1000000 ≤ (fun j => nth p.2.1 j + (nth p.1 j + k * nth (sqL o (p.2.2 % (o.1.length : Int))) j)) j ∧ (fun j => nth p.2.1 j + (nth p.1 j + k * nth (sqL o (p.2.2 % (o.1.length : Int))) j)) j ≤ 1000000) (fun i => i = p.1.length ∧ ∀ j, j < i → (-1000000 ≤ (fun j => nth p.1 j + k * nth (sqL o (p.2.2 % (o.1.length : Int))) j) j ∧ (fun j => nth p.1 j + k * nth (sqL o (p.2.2 % (o.1.length : Int))) j) j ≤ 1000000) ∧ -1000000 ≤ (fun j => nth p.2.1 j + (nth p.1 j + k * nth (sqL o (p.2.2 % (o.1.length : Int))) j)) j ∧ (fun j => nth p.2.1 j + (nth p.1 j + k * nth (sqL o (p.2.2 % (o.1.length : Int))) j)) j ≤ 1000000) (fun i => p.1.length - i) (0) ⟨Nat.zero_le _, by simp⟩ (Ent.mk (.i rfl (by first | rfl | omega | (simp; done) | (simp; omega) | assumption) <| .k rfl rfl <| .k rfl rfl <| .k rfl rfl <| .k rfl rfl <| .k rfl rfl <| .k rfl rfl <| .nil) (.a updTo_zero (by first | rfl | omega | (simp; done) | (simp; omega) | assumption) <| .a updTo_zero (by first | rfl | omega | (simp; done) | (simp; omega) | assumption) <| .k rfl <| .k rfl <| .nil) rfl) ?_ ?_
        · rintro i ⟨hk0, hR0⟩
          refine Tr.norm (S' := [⟨11, true, _, _⟩, ⟨2, true, _, _⟩, ⟨3, true, _, _⟩, ⟨4, true, _, _⟩, ⟨7, true, _, _⟩, ⟨9, true, _, _⟩, ⟨10, true, _, _⟩]) (M' := [⟨71, _, _⟩, ⟨74, _, _⟩, ⟨3, _, _⟩, ⟨4, _, _⟩]) rfl rfl ?_
          have hs := sqL_bnd (o := o) (q := p.2.2 % (o.1.length : Int)) i
          have hks := mul_bnd hk hs
          have hAi := cA.rng i
          have hBi := cB.rng i
          refine Tr.seq ?_
          refine Tr.seq ?_
          refine Tr.rg ?_
          refine TrL.op (ok_move rfl (fun _ => rfl)) rfl rfl ?_
          refine TrL.op (ok_move rfl (fun _ => rfl)) rfl rfl ?_
          refine TrL.op (ok_lenO rfl (fun _ => rfl)) rfl rfl ?_
          refine TrL.op (ok_lss rfl (fun _ => rfl) rfl (fun _ => rfl)) rfl rfl ?_
          refine TrL.fin ?_
          refine End.nxt ?_
          refine Tr.cnd rfl ?_ ?_
          · intro h10
            replace h10 := of_decide_eq_true h10
            refine Tr.skip ?_
            refine End.nxt ?_
            refine Tr.seq ?_
            refine Tr.blk ?_
            refine Tr.seq ?_
            refine Tr.draw 14 mixed (by kernel_rfl) ?_
            have eA : nth (updTo p.1 (fun j => nth p.1 j + k * nth (sqL o (p.2.2 % (o.1.length : Int))) j) i) i = nth p.1 i := by rw [nth_updTo (by omega), if_neg (by omega)]
            have eS : ((updTo p.1 (fun j => nth p.1 j + k * nth (sqL o (p.2.2 % (o.1.length : Int))) j) i).set i (nth (updTo p.1 (fun j => nth p.1 j + k * nth (sqL o (p.2.2 % (o.1.length : Int))) j) i) i + k * nth (sqL o (p.2.2 % (o.1.length : Int))) i)) = updTo p.1 (fun j => nth p.1 j + k * nth (sqL o (p.2.2 % (o.1.length : Int))) j) (i + 1) := by rw [eA]; exact updTo_succ
            have eT : nth ((updTo p.1 (fun j => nth p.1 j + k * nth (sqL o (p.2.2 % (o.1.length : Int))) j) i).set i (nth (updTo p.1 (fun j => nth p.1 j + k * nth (sqL o (p.2.2 % (o.1.length : Int))) j) i) i + k * nth (sqL o (p.2.2 % (o.1.length : Int))) i)) i = nth p.1 i + k * nth (sqL o (p.2.2 % (o.1.length : Int))) i := by rw [eS]; exact updTo_at (by omega)
            have eS2 : ((updTo p.2.1 (fun j => nth p.2.1 j + (nth p.1 j + k * nth (sqL o (p.2.2 % (o.1.length : Int))) j)) i).set i (nth p.2.1 i + nth ((updTo p.1 (fun j => nth p.1 j + k * nth (sqL o (p.2.2 % (o.1.length : Int))) j) i).set i (nth (updTo p.1 (fun j => nth p.1 j + k * nth (sqL o (p.2.2 % (o.1.length : Int))) j) i) i + k * nth (sqL o (p.2.2 % (o.1.length : Int))) i)) i)) = updTo p.2.1 (fun j => nth p.2.1 j + (nth p.1 j + k * nth (sqL o (p.2.2 % (o.1.length : Int))) j)) (i + 1) := by rw [eT]; exact updTo_succ
            have eT2 : nth ((updTo p.2.1 (fun j => nth p.2.1 j + (nth p.1 j + k * nth (sqL o (p.2.2 % (o.1.length : Int))) j)) i).set i (nth p.2.1 i + nth ((updTo p.1 (fun j => nth p.1 j + k * nth (sqL o (p.2.2 % (o.1.length : Int))) j) i).set i (nth (updTo p.1 (fun j => nth p.1 j + k * nth (sqL o (p.2.2 % (o.1.length : Int))) j) i) i + k * nth (sqL o (p.2.2 % (o.1.length : Int))) i)) i)) i = nth p.2.1 i + (nth p.1 i + k * nth (sqL o (p.2.2 % (o.1.length : Int))) i) := by rw [eS2]; exact updTo_at (by omega)
            refine RunD.op (ok_move rfl (fun _ => rfl)) rfl rfl ?_
            refine RunD.op (ok_move rfl (fun _ => rfl)) rfl rfl ?_
            refine RunD.op (ok_move rfl (fun _ => rfl)) rfl rfl ?_
            refine RunD.op (ok_move rfl (fun _ => rfl)) rfl rfl ?_
            first | refine RunD.op (ok_idxEN rfl (fun _ => rfl) rfl (fun _ => rfl) (fun _ => by omega)) rfl rfl ?_ | refine RunD.op (ok_idxE rfl (fun _ => rfl) rfl (fun _ => rfl) (fun _ => by omega)) rfl rfl ?_
            refine RunD.op (ok_ldE rfl (fun _ => rfl) rfl rfl rfl) rfl rfl ?_
            refine RunD.op (ok_move rfl (fun _ => rfl)) rfl rfl ?_
            refine RunD.op (ok_convI rfl (fun _ => rfl) (fun _ => by omega)) rfl rfl ?_
            refine RunD.op (ok_move rfl (fun _ => rfl)) rfl rfl ?_
            refine RunD.op (ok_move rfl (fun _ => rfl)) rfl rfl ?_
            first | refine RunD.op (ok_idxN rfl (fun _ => rfl) rfl (fun _ => rfl) rfl (fun _ => by omega)) rfl rfl ?_ | refine RunD.op (ok_idxP rfl (fun _ => rfl) rfl (fun _ => rfl) rfl (fun _ => by omega)) rfl rfl ?_
            refine RunD.op (ok_ldP rfl (fun _ => rfl) rfl) rfl rfl ?_
            refine RunD.op (ok_mul rfl (fun _ => rfl) rfl (fun _ => rfl) (fun _ => by omega)) rfl rfl ?_
            refine RunD.op (ok_add rfl (fun _ => rfl) rfl (fun _ => rfl) (fun _ => by omega)) rfl rfl ?_
            refine RunD.z ?_
            first | refine TrL.op (ok_idxEN rfl (fun _ => rfl) rfl (fun _ => rfl) (fun _ => by omega)) rfl rfl ?_ | refine TrL.op (ok_idxE rfl (fun _ => rfl) rfl (fun _ => rfl) (fun _ => by omega)) rfl rfl ?_
            refine TrL.stE rfl rfl rfl rfl rfl ?_
            refine TrL.fin ?_
            refine End.nxt ?_
            refine Tr.seq ?_
            refine Tr.draw 12 mixed (by kernel_rfl) ?_
            refine RunD.op (ok_move rfl (fun _ => rfl)) rfl rfl ?_
            refine RunD.op (ok_move rfl (fun _ => rfl)) rfl rfl ?_
            refine RunD.op (ok_fldO rfl (fun _ => rfl)) rfl rfl ?_
            refine RunD.op (ok_ldB rfl (fun _ => rfl) rfl) rfl rfl ?_
            refine RunD.op (ok_move rfl (fun _ => rfl)) rfl rfl ?_
            first | refine RunD.op (ok_idxN rfl (fun _ => rfl) rfl (fun _ => rfl) rfl (fun _ => by omega)) rfl rfl ?_ | refine RunD.op (ok_idxP rfl (fun _ => rfl) rfl (fun _ => rfl) rfl (fun _ => by omega)) rfl rfl ?_
            refine RunD.op (ok_ldP rfl (fun _ => rfl) rfl) rfl rfl ?_
            refine RunD.op (ok_move rfl (fun _ => rfl)) rfl rfl ?_
            refine RunD.op (ok_move rfl (fun _ => rfl)) rfl rfl ?_
            first | refine RunD.op (ok_idxEN rfl (fun _ => rfl) rfl (fun _ => rfl) (fun _ => by omega)) rfl rfl ?_ | refine RunD.op (ok_idxE rfl (fun _ => rfl) rfl (fun _ => rfl) (fun _ => by omega)) rfl rfl ?_
            refine RunD.op (ok_ldE rfl (fun _ => rfl) rfl rfl rfl) rfl rfl ?_
            refine RunD.op (ok_add rfl (fun _ => rfl) rfl (fun _ => rfl) (fun _ => by omega)) rfl rfl ?_
            refine RunD.z ?_
            first | refine TrL.op (ok_idxEN rfl (fun _ => rfl) rfl (fun _ => rfl) (fun _ => by omega)) rfl rfl ?_ | refine TrL.op (ok_idxE rfl (fun _ => rfl) rfl (fun _ => rfl) (fun _ => by omega)) rfl rfl ?_
            refine TrL.stE rfl rfl rfl rfl rfl ?_
            refine TrL.fin ?_
            refine End.nxt ?_
            refine Tr.seq ?_
            refine Tr.rg ?_
            refine TrL.op (ok_move rfl (fun _ => rfl)) rfl rfl ?_
            refine TrL.op (ok_move rfl (fun _ => rfl)) rfl rfl ?_
            first | refine TrL.op (ok_idxEN rfl (fun _ => rfl) rfl (fun _ => rfl) (fun _ => by omega)) rfl rfl ?_ | refine TrL.op (ok_idxE rfl (fun _ => rfl) rfl (fun _ => rfl) (fun _ => by omega)) rfl rfl ?_
            refine TrL.op (ok_ldE rfl (fun _ => rfl) rfl rfl rfl) rfl rfl ?_
            refine TrL.op (ok_call (fun hp => ct_Abs _ (by omega)) (.a rfl (fun _ => rfl) <| .nil)) rfl rfl ?_
            refine TrL.op (ok_gtr rfl (fun _ => rfl) rfl (fun _ => rfl)) rfl rfl ?_
            refine TrL.op (ok_move rfl (fun _ => rfl)) rfl rfl ?_
            refine TrL.gd rfl rfl rfl (ok_move rfl (fun _ => rfl)) rfl rfl ?_
            refine TrL.gd rfl rfl rfl (ok_move rfl (fun _ => rfl)) rfl rfl ?_
            first | refine TrL.gd rfl rfl rfl (ok_idxEN rfl id rfl id (fun hp => by simp at hp; omega)) rfl rfl ?_ | refine TrL.gd rfl rfl rfl (ok_idxE rfl id rfl id (fun hp => by simp at hp; omega)) rfl rfl ?_
            refine TrL.gd rfl rfl rfl (ok_ldE rfl id rfl rfl rfl) rfl rfl ?_
            refine TrL.gd rfl rfl rfl (ok_call (fun hp => ct_Abs _ (by omega)) (.a rfl id <| .nil)) rfl rfl ?_
            refine TrL.gd rfl rfl rfl (ok_gtr rfl id rfl (fun _ => rfl)) rfl rfl ?_
            refine TrL.op (ok_or rfl (fun _ => rfl) rfl (fun hp h => gdF2 ((fun _ => rfl) hp) h)) rfl rfl ?_
            refine TrL.fin ?_
            refine End.nxt ?_
            refine Tr.cnd rfl ?_ ?_
            · intro h14
              try simp only [decide_eq_true_eq, Bool.or_eq_true] at h14
              refine Tr.seq ?_
              refine Tr.rg ?_
              refine TrL.op (ok_assign rfl (fun _ => rfl)) rfl rfl ?_
              refine TrL.fin ?_
              refine End.nxt ?_
              refine Tr.ret ?_
              refine Rts.out ?_
              refine Rts.thn ?_
              refine Rts.thn ?_
              refine Rts.out ?_
              refine Rts.thn ?_
              refine Rts.thn ?_
              exact Rts.res1 (fn := Tryd.f4) rfl (.b rfl (by rfl) <| .nil)
            · intro h14
              try simp only [decide_eq_false_iff_not, Bool.or_eq_false_iff, Int.not_lt] at h14
              rw [eT2, eT] at h14
              refine Tr.skip ?_
              refine End.blk ?_
              refine End.nxt ?_
              refine Tr.rg ?_
              refine TrL.op (ok_move rfl (fun _ => rfl)) rfl rfl ?_
              refine TrL.op (ok_add rfl (fun _ => rfl) rfl (fun _ => rfl) (fun _ => by omega)) rfl rfl ?_
              refine TrL.op (ok_assign rfl (fun _ => rfl)) rfl rfl ?_
              refine TrL.fin ?_
              exact End.lp (i + 1) ⟨by omega, all_succ hR0 (by dsimp only; omega)⟩ (by omega) (Ent.mk (.i rfl (by first | rfl | omega | (simp; done) | (simp; omega) | assumption) <| .k rfl rfl <| .k rfl rfl <| .k rfl rfl <| .k rfl rfl <| .k rfl rfl <| .k rfl rfl <| .nil) (.a (by first | rfl | omega | (simp; done) | (simp; omega) | assumption) (by first | rfl | omega | (simp; done) | (simp; omega) | assumption) <| .a (by first | rfl | omega | (simp; done) | (simp; omega) | assumption) (by first | rfl | omega | (simp; done) | (simp; omega) | assumption) <| .k rfl <| .k rfl <| .nil) rfl)
          · intro h10
            replace h10 := Int.not_lt.1 (of_decide_eq_false h10)
            refine Tr.exit ?_
            refine Exs.thn ?_
            refine Exs.thn ?_
            refine Exs.here ?_
            exact End.cut (i) ⟨by omega, hR0⟩ (Ent.mk (.i rfl (by first | rfl | omega | (simp; done) | (simp; omega) | assumption) <| .k rfl rfl <| .k rfl rfl <| .k rfl rfl <| .k rfl rfl <| .k rfl rfl <| .k rfl rfl <| .nil) (.a (by first | rfl | omega | (simp; done) | (simp; omega) | assumption) (by first | rfl | omega | (simp; done) | (simp; omega) | assumption) <| .a (by first | rfl | omega | (simp; done) | (simp; omega) | assumption) (by first | rfl | omega | (simp; done) | (simp; omega) | assumption) <| .k rfl <| .k rfl <| .nil) rfl)
        · rintro i ⟨hE0, hR0⟩
          refine End.norm (S' := [⟨11, true, _, _⟩, ⟨2, true, _, _⟩, ⟨3, true, _, _⟩, ⟨4, true, _, _⟩, ⟨7, true, _, _⟩, ⟨9, true, _, _⟩, ⟨10, true, _, _⟩]) (M' := [⟨71, _, _⟩, ⟨74, _, _⟩, ⟨3, _, _⟩, ⟨4, _, _⟩]) rfl rfl ?_
          have hC : ∀ j, j < 2 * o.1.length → nth (updTo p.1 (fun j => nth p.1 j + k * nth (sqL o (p.2.2 % (o.1.length : Int))) j) i) j = nth p.1 j + k * nth (sqL o (p.2.2 % (o.1.length : Int))) j := fun j hj => by rw [nth_updTo (by omega), if_pos (by omega)]
          have hD : ∀ j, j < 2 * o.1.length → nth (updTo p.2.1 (fun j => nth p.2.1 j + (nth p.1 j + k * nth (sqL o (p.2.2 % (o.1.length : Int))) j)) i) j = nth p.2.1 j + nth (updTo p.1 (fun j => nth p.1 j + k * nth (sqL o (p.2.2 % (o.1.length : Int))) j) i) j := fun j hj => by rw [nth_updTo (by omega), if_pos (by omega), hC j hj]
          obtain ⟨cC, cD, cS, f1, f2, f3, f4⟩ := form_law v cA cB ⟨Int.emod_nonneg _ (by omega), Int.emod_lt_of_pos _ (by omega)⟩ (updTo_len.trans lA) (updTo_len.trans lB) hC hD (fun j hj => by (rw [hC j hj]; exact (hR0 j (by omega)).1)) (fun j hj => by (rw [hD j hj, hC j hj]; exact (hR0 j (by omega)).2))
          have zA := (chkZ_cyc v).2 cA
          have zB := (chkZ_cyc v).2 cB
          have zC := (chkZ_cyc v).2 cC
          have zD := (chkZ_cyc v).2 cD
          have zS := (chkZ_cyc v).2 cS
          have zO := chkO_of v
          refine End.nxt ?_
          refine Tr.seq ?_
          refine Tr.rg ?_
          refine TrL.op (ok_ldBS rfl (fun _ => rfl)) rfl rfl ?_
          refine TrL.op (ok_fldO rfl (fun _ => rfl)) rfl rfl ?_
          refine TrL.op (ok_ldB rfl (fun _ => rfl) rfl) rfl rfl ?_
          refine TrL.op (ok_fldO rfl (fun _ => rfl)) rfl rfl ?_
          refine TrL.op (ok_ldB rfl (fun _ => rfl) rfl) rfl rfl ?_
          refine TrL.op (ok_call (fun hp => ct_hIntersect _ _ _) (.s rfl (fun _ => rfl) rfl <| .a rfl (fun _ => rfl) <| .a rfl (fun _ => rfl) <| .nil)) rfl rfl ?_
          refine TrL.op (ok_move rfl (fun _ => rfl)) rfl rfl ?_
          refine TrL.op (ok_ext rfl (fun _ => rfl) rfl) rfl rfl ?_
          refine TrL.op (ok_ext rfl (fun _ => rfl) rfl) rfl rfl ?_
          refine TrL.op (ok_assign rfl (fun _ => rfl)) rfl rfl ?_
          refine TrL.op (ok_assign rfl (fun _ => rfl)) rfl rfl ?_
          refine TrL.fin ?_
          refine End.nxt ?_
          refine Tr.seq ?_
          refine Tr.rg ?_
          refine TrL.op (ok_ldBS rfl (fun _ => rfl)) rfl rfl ?_
          refine TrL.op (ok_fldO rfl (fun _ => rfl)) rfl rfl ?_
          refine TrL.op (ok_ldB rfl (fun _ => rfl) rfl) rfl rfl ?_
          refine TrL.op (ok_fldO rfl (fun _ => rfl)) rfl rfl ?_
          refine TrL.op (ok_ldB rfl (fun _ => rfl) rfl) rfl rfl ?_
          refine TrL.op (ok_call (fun hp => ct_hIntersect _ _ _) (.s rfl (fun _ => rfl) rfl <| .a rfl (fun _ => rfl) <| .a rfl (fun _ => rfl) <| .nil)) rfl rfl ?_
          refine TrL.op (ok_move rfl (fun _ => rfl)) rfl rfl ?_
          refine TrL.op (ok_ext rfl (fun _ => rfl) rfl) rfl rfl ?_
          refine TrL.op (ok_ext rfl (fun _ => rfl) rfl) rfl rfl ?_
          refine TrL.op (ok_assign rfl (fun _ => rfl)) rfl rfl ?_
          refine TrL.op (ok_assign rfl (fun _ => rfl)) rfl rfl ?_
          refine TrL.fin ?_
          refine End.nxt ?_
          refine Tr.seq ?_
          refine Tr.rg ?_
          refine TrL.op (ok_ldBS rfl (fun _ => rfl)) rfl rfl ?_
          refine TrL.op (ok_move rfl (fun _ => rfl)) rfl rfl ?_
          refine TrL.op (ok_fldO rfl (fun _ => rfl)) rfl rfl ?_
          refine TrL.op (ok_ldB rfl (fun _ => rfl) rfl) rfl rfl ?_
          refine TrL.frz 71 [9, 143] ⟨rfl, rfl, trivial⟩ (by simp only [lenMax]; omega) rfl ?_
          refine TrL.norm (S' := ⟨_, _, _, _⟩ :: ⟨_, _, _, _⟩ :: ⟨_, _, _, _⟩ :: ⟨_, _, _, _⟩ :: ⟨_, _, _, _⟩ :: ⟨_, _, _, _⟩ :: ⟨_, _, _, _⟩ :: ⟨_, _, _, _⟩ :: ⟨_, _, _, _⟩ :: ⟨_, _, _, _⟩ :: ⟨_, _, _, _⟩ :: ⟨_, _, _, _⟩ :: ⟨_, _, _, _⟩ :: ⟨_, _, _, _⟩ :: ⟨_, _, _, _⟩ :: ⟨_, _, _, _⟩ :: ⟨_, _, _, _⟩ :: ⟨_, _, _, _⟩ :: ⟨_, _, _, _⟩ :: ⟨_, _, _, _⟩ :: ⟨_, _, _, _⟩ :: ⟨_, _, _, _⟩ :: ⟨_, _, _, _⟩ :: ⟨_, _, _, _⟩ :: ⟨_, _, _, _⟩ :: ⟨_, _, _, _⟩ :: ⟨_, _, _, _⟩ :: ⟨_, _, _, _⟩ :: ⟨_, _, _, _⟩ :: ⟨_, _, _, _⟩ :: ⟨_, _, _, _⟩ :: ⟨_, _, _, _⟩ :: ⟨_, _, _, _⟩ :: ⟨_, _, _, _⟩ :: ⟨_, _, _, _⟩ :: []) rfl rfl ?_
          refine TrL.op (ok_call (fun hp => ct_hIntersect _ _ _) (.s rfl (fun _ => rfl) rfl <| .a rfl (fun _ => rfl) <| .a rfl (fun _ => rfl) <| .nil)) rfl rfl ?_
          refine TrL.op (ok_move rfl (fun _ => rfl)) rfl rfl ?_
          refine TrL.op (ok_ext rfl (fun _ => rfl) rfl) rfl rfl ?_
          refine TrL.op (ok_ext rfl (fun _ => rfl) rfl) rfl rfl ?_
          refine TrL.op (ok_assign rfl (fun _ => rfl)) rfl rfl ?_
          refine TrL.op (ok_assign rfl (fun _ => rfl)) rfl rfl ?_
          refine TrL.fin ?_
          refine End.nxt ?_
          refine Tr.seq ?_
          refine Tr.rg ?_
          refine TrL.op (ok_ldBS rfl (fun _ => rfl)) rfl rfl ?_
          refine TrL.op (ok_fldO rfl (fun _ => rfl)) rfl rfl ?_
          refine TrL.op (ok_ldB rfl (fun _ => rfl) rfl) rfl rfl ?_
          refine TrL.op (ok_move rfl (fun _ => rfl)) rfl rfl ?_
          refine TrL.frz 74 [10, 153] ⟨rfl, rfl, trivial⟩ (by simp only [lenMax]; omega) rfl ?_
          refine TrL.norm (S' := ⟨_, _, _, _⟩ :: ⟨_, _, _, _⟩ :: ⟨_, _, _, _⟩ :: ⟨_, _, _, _⟩ :: ⟨_, _, _, _⟩ :: ⟨_, _, _, _⟩ :: ⟨_, _, _, _⟩ :: ⟨_, _, _, _⟩ :: ⟨_, _, _, _⟩ :: ⟨_, _, _, _⟩ :: ⟨_, _, _, _⟩ :: ⟨_, _, _, _⟩ :: ⟨_, _, _, _⟩ :: ⟨_, _, _, _⟩ :: ⟨_, _, _, _⟩ :: ⟨_, _, _, _⟩ :: ⟨_, _, _, _⟩ :: ⟨_, _, _, _⟩ :: ⟨_, _, _, _⟩ :: ⟨_, _, _, _⟩ :: ⟨_, _, _, _⟩ :: ⟨_, _, _, _⟩ :: ⟨_, _, _, _⟩ :: ⟨_, _, _, _⟩ :: ⟨_, _, _, _⟩ :: ⟨_, _, _, _⟩ :: ⟨_, _, _, _⟩ :: ⟨_, _, _, _⟩ :: ⟨_, _, _, _⟩ :: ⟨_, _, _, _⟩ :: ⟨_, _, _, _⟩ :: ⟨_, _, _, _⟩ :: ⟨_, _, _, _⟩ :: ⟨_, _, _, _⟩ :: ⟨_, _, _, _⟩ :: ⟨_, _, _, _⟩ :: ⟨_, _, _, _⟩ :: ⟨_, _, _, _⟩ :: ⟨_, _, _, _⟩ :: ⟨_, _, _, _⟩ :: ⟨_, _, _, _⟩ :: ⟨_, _, _, _⟩ :: ⟨_, _, _, _⟩ :: ⟨_, _, _, _⟩ :: ⟨_, _, _, _⟩ :: ⟨_, _, _, _⟩ :: ⟨_, _, _, _⟩ :: []) rfl rfl ?_
          refine TrL.op (ok_call (fun hp => ct_hIntersect _ _ _) (.s rfl (fun _ => rfl) rfl <| .a rfl (fun _ => rfl) <| .a rfl (fun _ => rfl) <| .nil)) rfl rfl ?_
          refine TrL.op (ok_move rfl (fun _ => rfl)) rfl rfl ?_
          refine TrL.op (ok_ext rfl (fun _ => rfl) rfl) rfl rfl ?_
          refine TrL.op (ok_ext rfl (fun _ => rfl) rfl) rfl rfl ?_
          refine TrL.op (ok_assign rfl (fun _ => rfl)) rfl rfl ?_
          refine TrL.op (ok_assign rfl (fun _ => rfl)) rfl rfl ?_
          refine TrL.fin ?_
          refine End.nxt ?_
          refine Tr.seq ?_
          refine Tr.rg ?_
          refine TrL.op (ok_ldBS rfl (fun _ => rfl)) rfl rfl ?_
          refine TrL.op (ok_move rfl (fun _ => rfl)) rfl rfl ?_
          refine TrL.op (ok_fldO rfl (fun _ => rfl)) rfl rfl ?_
          refine TrL.op (ok_ldB rfl (fun _ => rfl) rfl) rfl rfl ?_
          refine TrL.op (ok_call (fun hp => ct_hIntersect _ _ _) (.s rfl (fun _ => rfl) rfl <| .a rfl (fun _ => rfl) <| .a rfl (fun _ => rfl) <| .nil)) rfl rfl ?_
          refine TrL.op (ok_move rfl (fun _ => rfl)) rfl rfl ?_
          refine TrL.op (ok_ext rfl (fun _ => rfl) rfl) rfl rfl ?_
          refine TrL.op (ok_ext rfl (fun _ => rfl) rfl) rfl rfl ?_
          refine TrL.op (ok_assign rfl (fun _ => rfl)) rfl rfl ?_
          refine TrL.op (ok_assign rfl (fun _ => rfl)) rfl rfl ?_
          refine TrL.fin ?_
          refine End.nxt ?_
          refine Tr.seq ?_
          refine Tr.rg ?_
          refine TrL.op (ok_move rfl (fun _ => rfl)) rfl rfl ?_
          refine TrL.op (ok_eql rfl (fun _ => rfl) rfl (fun _ => rfl)) rfl rfl ?_
          refine TrL.op (ok_move rfl (fun _ => rfl)) rfl rfl ?_
          refine TrL.gd rfl rfl rfl (ok_move rfl (fun _ => rfl)) rfl rfl ?_
          refine TrL.gd rfl rfl rfl (ok_eql rfl id rfl (fun _ => rfl)) rfl rfl ?_
          refine TrL.op (ok_and rfl (fun _ => rfl) rfl (fun hp h => gdT2 ((fun _ => rfl) hp) h)) rfl rfl ?_
          refine TrL.op (ok_move rfl (fun _ => rfl)) rfl rfl ?_
          refine TrL.gd rfl rfl rfl (ok_move rfl (fun _ => rfl)) rfl rfl ?_
          refine TrL.gd rfl rfl rfl (ok_eql rfl id rfl (fun _ => rfl)) rfl rfl ?_
          refine TrL.op (ok_and rfl (fun _ => rfl) rfl (fun hp h => gdT2 ((fun _ => rfl) hp) h)) rfl rfl ?_
          refine TrL.op (ok_move rfl (fun _ => rfl)) rfl rfl ?_
          refine TrL.gd rfl rfl rfl (ok_move rfl (fun _ => rfl)) rfl rfl ?_
          refine TrL.gd rfl rfl rfl (ok_eql rfl id rfl (fun _ => rfl)) rfl rfl ?_
          refine TrL.op (ok_and rfl (fun _ => rfl) rfl (fun hp h => gdT2 ((fun _ => rfl) hp) h)) rfl rfl ?_
          refine TrL.op (ok_move rfl (fun _ => rfl)) rfl rfl ?_
          refine TrL.gd rfl rfl rfl (ok_move rfl (fun _ => rfl)) rfl rfl ?_
          refine TrL.gd rfl rfl rfl (ok_eql rfl id rfl (fun _ => rfl)) rfl rfl ?_
          refine TrL.op (ok_and rfl (fun _ => rfl) rfl (fun hp h => gdT2 ((fun _ => rfl) hp) h)) rfl rfl ?_
          refine TrL.op (ok_move rfl (fun _ => rfl)) rfl rfl ?_
          refine TrL.gd rfl rfl rfl (ok_move rfl (fun _ => rfl)) rfl rfl ?_
          refine TrL.gd rfl rfl rfl (ok_move rfl (fun _ => rfl)) rfl rfl ?_
          refine TrL.gd rfl rfl rfl (ok_negW rfl id) rfl rfl ?_
          refine TrL.gd rfl rfl rfl (ok_eql rfl id rfl id) rfl rfl ?_
          refine TrL.op (ok_and rfl (fun _ => rfl) rfl (fun hp h => gdT2 ((fun _ => rfl) hp) h)) rfl rfl ?_
          refine TrL.op (ok_move rfl (fun _ => rfl)) rfl rfl ?_
          refine TrL.gd rfl rfl rfl (ok_move rfl (fun _ => rfl)) rfl rfl ?_
          refine TrL.gd rfl rfl rfl (ok_move rfl (fun _ => rfl)) rfl rfl ?_
          refine TrL.gd rfl rfl rfl (ok_eql rfl id rfl id) rfl rfl ?_
          refine TrL.op (ok_and rfl (fun _ => rfl) rfl (fun hp h => gdT2 ((fun _ => rfl) hp) h)) rfl rfl ?_
          refine TrL.op (ok_move rfl (fun _ => rfl)) rfl rfl ?_
          refine TrL.gd rfl rfl rfl (ok_move rfl (fun _ => rfl)) rfl rfl ?_
          refine TrL.gd rfl rfl rfl (ok_move rfl (fun _ => rfl)) rfl rfl ?_
          refine TrL.gd rfl rfl rfl (ok_eql rfl id rfl id) rfl rfl ?_
          refine TrL.op (ok_and rfl (fun _ => rfl) rfl (fun hp h => gdT2 ((fun _ => rfl) hp) h)) rfl rfl ?_
          refine TrL.op (ok_move rfl (fun _ => rfl)) rfl rfl ?_
          refine TrL.gd rfl rfl rfl (ok_move rfl (fun _ => rfl)) rfl rfl ?_
          refine TrL.gd rfl rfl rfl (ok_eql rfl id rfl (fun _ => rfl)) rfl rfl ?_
          refine TrL.op (ok_and rfl (fun _ => rfl) rfl (fun hp h => gdT2 ((fun _ => rfl) hp) h)) rfl rfl ?_
          refine TrL.op (ok_assign rfl (fun _ => rfl)) rfl rfl ?_
          refine TrL.fin ?_
          refine End.nxt ?_
          refine Tr.ret ?_
          exact Rts.res1 (fn := Tryd.f4) rfl (.b rfl (by simp [zA, zB, zC, zD, zS, zO, f1, f2, f3, f4, orE00, W_zero]; exact (W_neg _).symm) <| .nil)

end Go.Fl

/- Potentials: which chains are sums of boundaries of squares, and by which multiples. The search through the squares that finds them. Plain Lean, no program in sight. -/
namespace Go.Fl
open Go Go.RowKit
/-- The numbers of the sum of multiples of boundaries of squares. -/
def potE (o : Ori) (y : Int → Int) (e : Nat) : Int := if e < o.1.length then y e - y (ap (invL o.2) e) else y (ap (invL o.1) ((e : Int) - o.1.length)) - y ((e : Int) - o.1.length)
/-- The sum of multiples of boundaries of squares. -/
def potL (o : Ori) (X : List Int) : List Int := tab (2 * o.1.length) (fun e => W (potE o (fun x => nth X x.toNat) e))
structure PotW (o : Ori) (c : List Int) (y : Int → Int) : Prop where
  h : ∀ x, Sq o.1.length x → W (y x - y (ap (invL o.2) x)) = nth c x.toNat
  v : ∀ x, Sq o.1.length x → W (y (ap (invL o.1) x) - y x) = nth c ((o.1.length : Int) + x).toNat
theorem potL_iff {o : Ori} {c X : List Int} (hc : c.length = 2 * o.1.length) : potL o X = c ↔ PotW o c (fun x => nth X x.toNat) := by
  constructor
  · intro h
    refine ⟨fun x hx => ?_, fun x hx => ?_⟩
    · have h1 := hx.1; have h2 := hx.2
      rw [← h, potL, nth_tab (by omega), potE, if_pos (by omega), Int.toNat_of_nonneg h1]
    · have h1 := hx.1; have h2 := hx.2
      rw [← h, potL, nth_tab (by omega), potE, if_neg (by omega), show ((((o.1.length : Int) + x).toNat : Nat) : Int) - o.1.length = x by omega]
  · intro h
    refine ext_nth (by rw [potL, tab_len, hc]) fun e he => ?_
    rw [potL, tab_len] at he
    rw [potL, nth_tab he, potE]
    by_cases h1 : e < o.1.length
    · rw [if_pos h1, h.h (e : Int) (Sq.nat h1), Int.toNat_natCast]
    · rw [if_neg h1, h.v ((e : Int) - o.1.length) ⟨by omega, by omega⟩, show ((o.1.length : Int) + ((e : Int) - o.1.length)).toNat = e by omega]
/-- Two squares of one component: no function tells them apart that is the same on neighbours. -/
def Conn (o : Ori) (a b : Int) : Prop := ∀ f : Int → Int, (∀ x, Sq o.1.length x → f (ap o.1 x) = f x ∧ f (ap o.2 x) = f x) → f a = f b
theorem Conn.refl {o : Ori} (a : Int) : Conn o a a := fun _ _ => rfl
theorem Conn.symm {o : Ori} {a b : Int} (h : Conn o a b) : Conn o b a := fun f hf => (h f hf).symm
theorem Conn.trans {o : Ori} {a b c : Int} (h : Conn o a b) (k : Conn o b c) : Conn o a c := fun f hf => (h f hf).trans (k f hf)
theorem Conn.r {o : Ori} {x : Int} (hx : Sq o.1.length x) : Conn o x (ap o.1 x) := fun _ hf => (hf x hx).1.symm
theorem Conn.u {o : Ori} {x : Int} (hx : Sq o.1.length x) : Conn o x (ap o.2 x) := fun _ hf => (hf x hx).2.symm
section
variable {o : Ori} (v : Valid o)
include v
theorem Conn.l {x : Int} (hx : Sq o.1.length x) : Conn o x (ap (invL o.1) x) := by
  have := (Conn.r (v.pR.inv.aps hx)).symm
  rwa [v.pR.ap_inv hx] at this
theorem Conn.d {x : Int} (hx : Sq o.1.length x) : Conn o x (ap (invL o.2) x) := by
  have := (Conn.u (v.pU.inv.aps hx)).symm
  rwa [v.pU.ap_inv hx] at this
end
/-- The least square of a component. -/
def Root (o : Ori) (i : Int) : Prop := ∀ j, Sq o.1.length j → Conn o j i → i ≤ j
theorem Root.uniq {o : Ori} {i j : Int} (hi : Root o i) (hj : Root o j) (si : Sq o.1.length i) (sj : Sq o.1.length j) (h : Conn o i j) : i = j := by
  have h1 := hi j sj h.symm
  have h2 := hj i si h
  omega
/-- What is known of a multiple of a square. -/
def KX1 (o : Ori) (c X : List Int) (x : Int) : Prop := ∃ i, Sq o.1.length i ∧ Root o i ∧ Conn o i x ∧ ∀ y, PotW o c y → nth X x.toNat = W (y x - y i)
def KX (o : Ori) (c : List Int) (K : List Bool) (X : List Int) : Prop := ∀ x, Sq o.1.length x → (nth K x.toNat = true → KX1 o c X x) ∧ (nth K x.toNat = false → nth X x.toNat = 0)
def KAll (o : Ori) (c X : List Int) : Prop := X.length = o.1.length ∧ ∀ x, Sq o.1.length x → KX1 o c X x
theorem W_sub_congr {a b c d : Int} (h : W (a - b) = W (c - d)) : W (a - c) = W (b - d) := by
  obtain ⟨p, hp⟩ := W_spec (a - b); obtain ⟨q, hq⟩ := W_spec (c - d)
  exact W_congr ⟨q - p, by omega⟩
theorem KAll.eq {o : Ori} {c X X' : List Int} (h : KAll o c X) (h' : KAll o c X') (hp : PotW o c (fun x => nth X x.toNat)) : X = X' := by
  refine ext_nth (h.1.trans h'.1.symm) fun k hk => ?_
  have hs : Sq o.1.length (k : Int) := Sq.nat (by rw [← h.1]; exact hk)
  obtain ⟨i, s1, r1, c1, e1⟩ := h.2 k hs
  obtain ⟨i', s2, r2, c2, e2⟩ := h'.2 k hs
  have hii := r1.uniq r2 s1 s2 (c1.trans c2.symm)
  subst hii
  have a1 := e1 _ hp
  have a2 := e2 _ hp
  rw [Int.toNat_natCast] at a1 a2
  rw [a1, a2]
theorem KAll.pot {o : Ori} {c X X' : List Int} (hc : c.length = 2 * o.1.length) (h : KAll o c X) (h' : KAll o c X') : (potL o X = c ↔ potL o X' = c) ∧ (potL o X = c → X = X') := by
  refine ⟨⟨fun e => ?_, fun e => ?_⟩, fun e => h.eq h' ((potL_iff hc).1 e)⟩
  · rw [← h.eq h' ((potL_iff hc).1 e)]; exact e
  · rw [← h'.eq h ((potL_iff hc).1 e)]; exact e
/-- A set of squares that has with each its neighbours. -/
def Closed (o : Ori) (K : List Bool) : Prop := ∀ x, Sq o.1.length x → nth K (ap o.1 x).toNat = nth K x.toNat ∧ nth K (ap o.2 x).toNat = nth K x.toNat
theorem Closed.root {o : Ori} {K : List Bool} (h : Closed o K) {k : Int} (hk : nth K k.toNat = false) (hlt : ∀ j, Sq o.1.length j → j < k → nth K j.toNat = true) : Root o k := fun j sj hc => by
  refine Int.not_lt.1 fun hjk => ?_
  have h1 := hc (fun x => if nth K x.toNat then 1 else 0) fun x hx => by
    have := h x hx
    rw [this.1, this.2]; exact ⟨rfl, rfl⟩
  simp only [hk, hlt j sj hjk] at h1
  cases h1
theorem KX.root {o : Ori} {c : List Int} {K : List Bool} {X : List Int} (h : KX o c K X) (hl : K.length = o.1.length) {k : Int} (sk : Sq o.1.length k) (hk : nth K k.toNat = false) (hr : Root o k) : KX o c (K.set k.toNat true) X := fun x hx => by
  have h1 := hx.1; have h2 := hx.2; have h3 := sk.1
  by_cases e : x = k
  · subst e
    refine ⟨fun _ => ⟨x, hx, hr, Conn.refl x, fun y _ => ?_⟩, fun hh => ?_⟩
    · rw [(h x hx).2 hk, Int.sub_self]; rfl
    · rw [nth_set (by omega), if_pos rfl] at hh; cases hh
  · rw [nth_set (by omega), if_neg (by omega)]; exact h x hx
theorem KX.step {o : Ori} {c : List Int} {K : List Bool} {X : List Int} (h : KX o c K X) (hl : K.length = o.1.length) (hx : X.length = o.1.length) {i t a : Int} (si : Sq o.1.length i) (st : Sq o.1.length t) (hi : nth K i.toNat = true) (ht : nth K t.toNat = false)
    (hc : Conn o i t) (hy : ∀ y, PotW o c y → W (y t - y i) = W a) : KX o c (K.set t.toNat true) (X.set t.toNat (W (nth X i.toNat + a))) := fun x sx => by
  have h1 := sx.1; have h2 := sx.2; have h3 := st.1
  by_cases e : x = t
  · subst e
    rw [nth_set (by omega), if_pos rfl, KX1, nth_set (by omega), if_pos rfl]
    obtain ⟨r, s1, s2, s3, s4⟩ := (h i si).1 hi
    refine ⟨fun _ => ⟨r, s1, s2, s3.trans hc, fun y hp => ?_⟩, fun hh => by cases hh⟩
    have e1 := s4 y hp
    have e2 := hy y hp
    rw [e1, W_add_l]
    obtain ⟨p, hp⟩ := W_spec (y x - y i); obtain ⟨q, hq⟩ := W_spec a
    exact W_congr ⟨p - q, by omega⟩
  · rw [nth_set (by omega), if_neg (by omega), KX1, nth_set (by omega), if_neg (by omega)]; exact h x sx

/-! ### The search -/
abbrev StepT := Int × Int × Int
def stps (o : Ori) (i : Int) : List StepT := [((o.1.length : Int) + ap o.1 i, ap o.1 i, -1), ((o.1.length : Int) + i, ap (invL o.1) i, 1), (ap o.2 i, ap o.2 i, 1), (i, ap (invL o.2) i, -1)]
structure BS where
  m : List Int
  us : List Bool
  kn : List Bool
  q : List Int
def mulS (c : List Int) (U : Int → Bool) (i : Int) (s : BS) (p : StepT) : BS :=
  if nth s.kn p.2.1.toNat = false ∧ U p.1 = true then ⟨s.m.set p.2.1.toNat (W (nth s.m i.toNat + W (p.2.2 * nth c p.1.toNat))), s.us.set p.1.toNat true, s.kn.set p.2.1.toNat true, s.q ++ [p.2.1]⟩ else s
def mulJ (o : Ori) (c : List Int) (U : Int → Bool) (i : Int) (j : Nat) (s : BS) : BS := ((stps o i).take j).foldl (mulS c U i) s
def mulN (o : Ori) (c : List Int) (U : Int → Bool) (i : Int) (s : BS) : BS := let t := mulJ o c U i 4 s; ⟨t.m, t.us, t.kn, t.q.tail⟩
def mulR (o : Ori) (c : List Int) (U : Int → Bool) : Nat → BS → BS
  | 0, s => s
  | f + 1, s => match s.q with
    | [] => s
    | i :: _ => mulR o c U f (mulN o c U i s)
def mulO (o : Ori) (c : List Int) (U : Int → Bool) : Nat → BS
  | 0 => ⟨List.replicate o.1.length 0, List.replicate (2 * o.1.length) false, List.replicate o.1.length false, []⟩
  | k + 1 => let s := mulO o c U k; if nth s.kn k = true then s else mulR o c U o.1.length ⟨s.m, s.us, s.kn.set k true, [(k : Int)]⟩
def cntF (s : BS) : Nat := s.kn.count false
theorem stps_len {o : Ori} {i : Int} : (stps o i).length = 4 := rfl
theorem mulJ_zero {o : Ori} {c : List Int} {U : Int → Bool} {i : Int} {s : BS} : mulJ o c U i 0 s = s := rfl
theorem mulJ_succ {o : Ori} {c : List Int} {U : Int → Bool} {i : Int} {s : BS} {j : Nat} (h : j < 4) : mulJ o c U i (j + 1) s = mulS c U i (mulJ o c U i j s) (nth (stps o i) j) := by
  unfold mulJ
  rw [take_succ_nth (by rw [stps_len]; exact h), List.foldl_append]; rfl
structure BOk (o : Ori) (s : BS) : Prop where
  m : s.m.length = o.1.length
  us : s.us.length = 2 * o.1.length
  kn : s.kn.length = o.1.length
  q : ∀ x ∈ s.q, Sq o.1.length x ∧ nth s.kn x.toNat = true
section
variable {o : Ori} (v : Valid o)
include v
theorem stps_rng {i : Int} (hi : Sq o.1.length i) {p : StepT} (hp : p ∈ stps o i) : (0 ≤ p.1 ∧ p.1 < 2 * o.1.length) ∧ Sq o.1.length p.2.1 ∧ (p.2.2 = 1 ∨ p.2.2 = -1) ∧ Conn o i p.2.1 := by
  have h1 := v.pR.aps hi; have h2 := v.pU.aps hi; have h3 := v.pR.inv.aps hi; have h4 := v.pU.inv.aps hi
  have a1 := h1.1; have a2 := h1.2; have a3 := h2.1; have a4 := h2.2; have a5 := hi.1; have a6 := hi.2
  simp only [stps, List.mem_cons, List.not_mem_nil, or_false] at hp
  rcases hp with rfl | rfl | rfl | rfl
  · exact ⟨⟨by show 0 ≤ (o.1.length : Int) + ap o.1 i; omega, by show (o.1.length : Int) + ap o.1 i < _; omega⟩, h1, .inr rfl, Conn.r hi⟩
  · exact ⟨⟨by show 0 ≤ (o.1.length : Int) + i; omega, by show (o.1.length : Int) + i < _; omega⟩, h3, .inl rfl, Conn.l v hi⟩
  · exact ⟨⟨a3, by show ap o.2 i < _; omega⟩, h2, .inl rfl, Conn.u hi⟩
  · exact ⟨⟨a5, by show i < _; omega⟩, h4, .inr rfl, Conn.d v hi⟩
theorem stps_pot {c : List Int} {i : Int} (hi : Sq o.1.length i) {p : StepT} (hp : p ∈ stps o i) {y : Int → Int} (hy : PotW o c y) : W (y p.2.1 - y i) = W (W (p.2.2 * nth c p.1.toNat)) := by
  have h1 := v.pR.aps hi; have h2 := v.pU.aps hi
  simp only [stps, List.mem_cons, List.not_mem_nil, or_false] at hp
  rw [W_W]
  rcases hp with rfl | rfl | rfl | rfl
  · have := hy.v _ h1
    rw [v.pR.inv_ap hi] at this
    show W (y (ap o.1 i) - y i) = W (-1 * nth c ((o.1.length : Int) + ap o.1 i).toNat)
    rw [← this]
    obtain ⟨p, hp⟩ := W_spec (y i - y (ap o.1 i))
    exact W_congr ⟨p, by omega⟩
  · have := hy.v _ hi
    show W (y (ap (invL o.1) i) - y i) = W (1 * nth c ((o.1.length : Int) + i).toNat)
    rw [← this, Int.one_mul, W_W]
  · have := hy.h _ h2
    rw [v.pU.inv_ap hi] at this
    show W (y (ap o.2 i) - y i) = W (1 * nth c (ap o.2 i).toNat)
    rw [← this, Int.one_mul, W_W]
  · have := hy.h _ hi
    show W (y (ap (invL o.2) i) - y i) = W (-1 * nth c i.toNat)
    rw [← this]
    obtain ⟨p, hp⟩ := W_spec (y i - y (ap (invL o.2) i))
    exact W_congr ⟨p, by omega⟩
end
theorem count_set {K : List Bool} {i : Nat} (h : i < K.length) (hk : nth K i = false) : K.count false = (K.set i true).count false + 1 := by
  induction K generalizing i with
  | nil => simp at h
  | cons a K ih =>
    cases i with
    | zero =>
      have : a = false := hk
      subst this
      simp
    | succ i =>
      have := ih (i := i) (by simpa using h) hk
      simp only [List.set_cons_succ, List.count_cons]
      omega
section
variable {o : Ori} (v : Valid o)
include v
theorem mulS_ok {c : List Int} {U : Int → Bool} {i : Int} (hi : Sq o.1.length i) {p : StepT} (hp : p ∈ stps o i) {s : BS} (h : BOk o s) : BOk o (mulS c U i s p) ∧ (mulS c U i s p).q.length + cntF (mulS c U i s p) = s.q.length + cntF s ∧
    (∀ x, nth s.kn x = true → nth (mulS c U i s p).kn x = true) ∧ (∃ t, (mulS c U i s p).q = s.q ++ t) := by
  unfold mulS
  obtain ⟨h1, h2, _, _⟩ := stps_rng v hi hp
  have h3 := h2.1; have h4 := h2.2
  split
  · rename_i hc
    have hmono : ∀ x, nth s.kn x = true → nth (s.kn.set p.2.1.toNat true) x = true := fun x hx => by
      by_cases hl : x < s.kn.length
      · rw [nth_set hl]; split
        · rfl
        · exact hx
      · have e1 : nth s.kn x = false := by unfold nth; rw [List.getD_eq_getElem?_getD, List.getElem?_eq_none (by omega)]; rfl
        rw [e1] at hx; cases hx
    refine ⟨⟨by simpa using h.m, by simpa using h.us, by simpa using h.kn, fun x hx => ?_⟩, ?_, hmono, _, rfl⟩
    · rcases List.mem_append.1 hx with hx | hx
      · exact ⟨(h.q x hx).1, hmono _ (h.q x hx).2⟩
      · simp at hx; subst hx
        exact ⟨h2, by show nth (s.kn.set p.2.1.toNat true) p.2.1.toNat = true; rw [nth_set (by rw [h.kn]; omega), if_pos rfl]⟩
    · have := count_set (by rw [h.kn]; omega) hc.1
      simp only [cntF, List.length_append, List.length_singleton]
      omega
  · exact ⟨h, rfl, fun _ h => h, [], by simp⟩
end
end Go.Fl

/- The search through the squares ends, and its multiples are the potential, if there is any. Plain Lean. -/
namespace Go.Fl
open Go Go.RowKit
theorem nth_mono {K : List Bool} {i : Nat} {x : Nat} (h : nth K x = true) : nth (K.set i true) x = true := by
  by_cases hl : x < K.length
  · rw [nth_set hl]; split
    · rfl
    · exact h
  · have e1 : nth K x = false := by unfold nth; rw [List.getD_eq_getElem?_getD, List.getElem?_eq_none (by omega)]; rfl
    rw [e1] at h; cases h
section
variable {o : Ori} (v : Valid o)
include v
theorem mulJ_ok {c : List Int} {U : Int → Bool} {i : Int} (hi : Sq o.1.length i) {s : BS} (h : BOk o s) : ∀ {j : Nat}, j ≤ 4 → BOk o (mulJ o c U i j s) ∧ (mulJ o c U i j s).q.length + cntF (mulJ o c U i j s) = s.q.length + cntF s ∧
    (∀ x, nth s.kn x = true → nth (mulJ o c U i j s).kn x = true) ∧ (∃ t, (mulJ o c U i j s).q = s.q ++ t)
  | 0, _ => ⟨h, rfl, fun _ h => h, [], by simp [mulJ_zero]⟩
  | j + 1, hj => by
    obtain ⟨h1, h2, h3, t, h4⟩ := mulJ_ok hi h (j := j) (by omega)
    obtain ⟨k1, k2, k3, t', k4⟩ := mulS_ok v (c := c) (U := U) hi (nth_mem (xs := stps o i) (i := j) (by rw [stps_len]; omega)) h1
    rw [mulJ_succ (by omega)]
    exact ⟨k1, k2.trans h2, fun x hx => k3 x (h3 x hx), t ++ t', by rw [k4, h4, List.append_assoc]⟩
theorem mulN_ok {c : List Int} {U : Int → Bool} {i : Int} {r : List Int} {s : BS} (h : BOk o s) (hq : s.q = i :: r) : BOk o (mulN o c U i s) ∧ (mulN o c U i s).q.length + cntF (mulN o c U i s) + 1 = s.q.length + cntF s ∧ (∀ x, nth s.kn x = true → nth (mulN o c U i s).kn x = true) ∧ (∃ t, (mulN o c U i s).q = r ++ t) := by
  have hi := (h.q i (by rw [hq]; simp)).1
  obtain ⟨h1, h2, h3, t, h4⟩ := mulJ_ok v (c := c) (U := U) hi h (j := 4) (Nat.le_refl _)
  have e : (mulN o c U i s).q = r ++ t := by show (mulJ o c U i 4 s).q.tail = _; rw [h4, hq]; rfl
  refine ⟨⟨h1.m, h1.us, h1.kn, fun x hx => h1.q x (List.mem_of_mem_tail hx)⟩, ?_, h3, t, e⟩
  rw [e]
  rw [h4, hq] at h2
  simp only [List.length_append, List.length_cons] at h2 ⊢
  have : cntF (mulN o c U i s) = cntF (mulJ o c U i 4 s) := rfl
  rw [hq, List.length_cons]
  omega
/-- What holds within a search: the multiples; and each square that is known and not in the queue has known neighbours over the usable edges. -/
structure BInv (o : Ori) (c : List Int) (s : BS) : Prop extends BOk o s where
  kx : KX o c s.kn s.m
  cl : ∀ x, Sq o.1.length x → nth s.kn x.toNat = true → x ∉ s.q → ∀ p ∈ stps o x, nth s.kn p.2.1.toNat = true
theorem mulS_kx {c : List Int} {U : Int → Bool} {i : Int} (hi : Sq o.1.length i) {p : StepT} (hp : p ∈ stps o i) {s : BS} (h : BOk o s) (hik : nth s.kn i.toNat = true) (hk : KX o c s.kn s.m) : KX o c (mulS c U i s p).kn (mulS c U i s p).m := by
  obtain ⟨_, h2, _, h4⟩ := stps_rng v hi hp
  unfold mulS
  split
  · rename_i hc
    exact hk.step h.kn h.m hi h2 hik hc.1 h4 (fun y hy => stps_pot v hi hp hy)
  · exact hk
theorem mulJ_kx {c : List Int} {U : Int → Bool} {i : Int} (hi : Sq o.1.length i) {s : BS} (h : BOk o s) (hik : nth s.kn i.toNat = true) (hk : KX o c s.kn s.m) : ∀ {j : Nat}, j ≤ 4 → KX o c (mulJ o c U i j s).kn (mulJ o c U i j s).m
  | 0, _ => hk
  | j + 1, hj => by
    rw [mulJ_succ (by omega)]
    obtain ⟨h1, _, h3, _⟩ := mulJ_ok v (c := c) (U := U) hi h (j := j) (by omega)
    exact mulS_kx v hi (nth_mem (by rw [stps_len]; omega)) h1 (h3 _ hik) (mulJ_kx hi h hik hk (by omega))
/-- What becomes known is in the queue; the neighbours that were looked at are known. -/
theorem mulJ_new {c : List Int} {i : Int} (hi : Sq o.1.length i) {s : BS} (h : BOk o s) : ∀ {j : Nat}, j ≤ 4 →
    (∀ x, Sq o.1.length x → nth (mulJ o c (fun _ => true) i j s).kn x.toNat = true → nth s.kn x.toNat = true ∨ x ∈ (mulJ o c (fun _ => true) i j s).q) ∧ ∀ l, l < j → nth (mulJ o c (fun _ => true) i j s).kn (nth (stps o i) l).2.1.toNat = true
  | 0, _ => ⟨fun _ _ h => .inl h, fun l h => absurd h (by omega)⟩
  | j + 1, hj => by
    obtain ⟨a1, a2⟩ := mulJ_new (c := c) hi h (j := j) (by omega)
    have hp := nth_mem (xs := stps o i) (i := j) (by rw [stps_len]; omega)
    obtain ⟨h1, _, _, _⟩ := mulJ_ok v (c := c) (U := fun _ => true) hi h (j := j) (by omega)
    obtain ⟨_, _, k3, t, k4⟩ := mulS_ok v (c := c) (U := fun _ => true) hi hp h1
    obtain ⟨_, h2, _, _⟩ := stps_rng v hi hp
    have b1 := h2.1; have b2 := h2.2
    rw [mulJ_succ (by omega)]
    refine ⟨fun x hx hk => ?_, fun l hl => ?_⟩
    · by_cases hcond : nth (mulJ o c (fun _ => true) i j s).kn (nth (stps o i) j).2.1.toNat = false
      · have e1 : mulS c (fun _ => true) i (mulJ o c (fun _ => true) i j s) (nth (stps o i) j) = ⟨_, _, (mulJ o c (fun _ => true) i j s).kn.set (nth (stps o i) j).2.1.toNat true, (mulJ o c (fun _ => true) i j s).q ++ [(nth (stps o i) j).2.1]⟩ := if_pos ⟨hcond, rfl⟩
        rw [e1] at hk ⊢
        by_cases e : x = (nth (stps o i) j).2.1
        · exact .inr (by simp [e])
        · have hx1 := hx.1; have hx2 := hx.2
          have hk2 : nth ((mulJ o c (fun _ => true) i j s).kn.set (nth (stps o i) j).2.1.toNat true) x.toNat = true := hk
          rw [nth_set (by rw [h1.kn]; omega), if_neg (by omega)] at hk2
          rcases a1 x hx hk2 with h | h
          · exact .inl h
          · exact .inr (by simp [h])
      · have e1 : mulS c (fun _ => true) i (mulJ o c (fun _ => true) i j s) (nth (stps o i) j) = mulJ o c (fun _ => true) i j s := if_neg (fun h => hcond h.1)
        rw [e1] at hk ⊢
        exact a1 x hx hk
    · rcases Nat.lt_succ_iff_lt_or_eq.1 hl with h | rfl
      · exact k3 _ (a2 l h)
      · unfold mulS
        split
        · show nth ((mulJ o c (fun _ => true) i l s).kn.set (nth (stps o i) l).2.1.toNat true) (nth (stps o i) l).2.1.toNat = true
          rw [nth_set (by rw [h1.kn]; omega), if_pos rfl]
        · rename_i hc
          simpa using hc
theorem mulN_inv {c : List Int} {i : Int} {r : List Int} {s : BS} (h : BInv o c s) (hq : s.q = i :: r) : BInv o c (mulN o c (fun _ => true) i s) := by
  have hi := h.q i (by rw [hq]; simp)
  obtain ⟨h1, _, h3, t, h4⟩ := mulN_ok v (c := c) (U := fun _ => true) h.toBOk hq
  obtain ⟨n1, n2⟩ := mulJ_new v (c := c) hi.1 h.toBOk (j := 4) (Nat.le_refl _)
  obtain ⟨_, _, _, t', h5⟩ := mulJ_ok v (c := c) (U := fun _ => true) hi.1 h.toBOk (j := 4) (Nat.le_refl _)
  refine { h1 with kx := mulJ_kx v hi.1 h.toBOk hi.2 h.kx (Nat.le_refl _), cl := fun x hx hk hnq p hp => ?_ }
  by_cases e : x = i
  · subst e
    obtain ⟨l, hl, rfl⟩ : ∃ l, l < 4 ∧ nth (stps o x) l = p := by
      obtain ⟨l, hl, e⟩ := List.getElem_of_mem hp
      exact ⟨l, hl, by rw [← e]; exact nth_of_get? (List.getElem?_eq_getElem hl)⟩
    exact n2 l hl
  · rcases n1 x hx hk with hk0 | hin
    · refine h3 _ (h.cl x hx hk0 (fun hx2 => ?_) p hp)
      rw [hq] at hx2
      rcases List.mem_cons.1 hx2 with h | h
      · exact e h
      · exact hnq (by rw [h4]; simp [h])
    · refine absurd ?_ hnq
      show x ∈ (mulJ o c (fun _ => true) i 4 s).q.tail
      rw [h5, hq] at hin ⊢
      rcases List.mem_cons.1 hin with h | h
      · exact absurd h e
      · exact h
theorem mulR_inv {c : List Int} : ∀ {f : Nat} {s : BS}, BInv o c s → s.q.length + cntF s ≤ f → BInv o c (mulR o c (fun _ => true) f s) ∧ (mulR o c (fun _ => true) f s).q = [] ∧ (∀ x, nth s.kn x = true → nth (mulR o c (fun _ => true) f s).kn x = true)
  | 0, s, h, hf => ⟨h, (show s.q = [] from List.eq_nil_of_length_eq_zero (by omega)), fun _ h => h⟩
  | f + 1, s, h, hf => by
    unfold mulR
    split
    · exact ⟨h, by assumption, fun _ h => h⟩
    · rename_i i r hq
      obtain ⟨_, h2, h3, _⟩ := mulN_ok v (c := c) (U := fun _ => true) h.toBOk hq
      obtain ⟨k1, k2, k3⟩ := mulR_inv (f := f) (mulN_inv v h hq) (by omega)
      exact ⟨k1, k2, fun x hx => k3 x (h3 x hx)⟩
theorem BInv.closed {c : List Int} {s : BS} (h : BInv o c s) (hq : s.q = []) : Closed o s.kn := fun x hx => by
  have hr := v.pR.aps hx; have hu := v.pU.aps hx
  have key : ∀ a, Sq o.1.length a → nth s.kn a.toNat = true → ∀ p ∈ stps o a, nth s.kn p.2.1.toNat = true := fun a ha hk => h.cl a ha hk (by rw [hq]; simp)
  constructor
  · rw [Bool.eq_iff_iff]
    exact ⟨fun hk => by have := key _ hr hk ((o.1.length : Int) + ap o.1 x, ap (invL o.1) (ap o.1 x), 1) (by simp [stps]); simpa [v.pR.inv_ap hx] using this,
      fun hk => key x hx hk ((o.1.length : Int) + ap o.1 x, ap o.1 x, -1) (by simp [stps])⟩
  · rw [Bool.eq_iff_iff]
    exact ⟨fun hk => by have := key _ hu hk (ap o.2 x, ap (invL o.2) (ap o.2 x), -1) (by simp [stps]); simpa [v.pU.inv_ap hx] using this,
      fun hk => key x hx hk (ap o.2 x, ap o.2 x, 1) (by simp [stps])⟩
/-- A square that is not known when its turn comes begins a component. -/
theorem BInv.start {c : List Int} {s : BS} (h : BInv o c s) (hq : s.q = []) {k : Nat} (hk : k < o.1.length) (hn : nth s.kn k = false) (hlt : ∀ j, j < k → nth s.kn j = true) : BInv o c ⟨s.m, s.us, s.kn.set k true, [(k : Int)]⟩ := by
  have hc := h.closed v hq
  have sk : Sq o.1.length (k : Int) := Sq.nat hk
  have hr : Root o k := hc.root (by simpa using hn) fun j sj hj => hlt j.toNat (by have := sj.1; omega)
  refine { m := h.m, us := h.us, kn := by simpa using h.kn, q := fun x hx => ?_, kx := ?_, cl := fun x hx hkn hnq p hp => ?_ }
  · simp at hx; subst hx
    exact ⟨sk, by show nth (s.kn.set k true) (k : Int).toNat = true; rw [Int.toNat_natCast, nth_set (by rw [h.kn]; exact hk), if_pos rfl]⟩
  · have := h.kx.root h.kn sk (by simpa using hn) hr
    rwa [Int.toNat_natCast] at this
  · have hx1 := hx.1; have hx2 := hx.2
    have e : x ≠ k := by simpa using hnq
    have hkn2 : nth (s.kn.set k true) x.toNat = true := hkn
    rw [nth_set (by rw [h.kn]; omega), if_neg (by omega)] at hkn2
    exact nth_mono (h.cl x hx hkn2 (by rw [hq]; simp) p hp)
theorem mulO_inv {c : List Int} : ∀ {k : Nat}, k ≤ o.1.length → BInv o c (mulO o c (fun _ => true) k) ∧ (mulO o c (fun _ => true) k).q = [] ∧ ∀ j, j < k → nth (mulO o c (fun _ => true) k).kn j = true
  | 0, _ => by
    refine ⟨{ m := by simp [mulO], us := by simp [mulO], kn := by simp [mulO], q := fun x hx => by simp [mulO] at hx, kx := fun x hx => ⟨fun hk => ?_, fun _ => ?_⟩, cl := fun x hx hk => ?_ }, rfl, fun j h => absurd h (by omega)⟩
    · have h1 := hx.1; have h2 := hx.2
      rw [mulO, nth_rep (by omega)] at hk; cases hk
    · have h1 := hx.1; have h2 := hx.2
      rw [mulO, nth_rep (by omega)]
    · have h1 := hx.1; have h2 := hx.2
      rw [mulO, nth_rep (by omega)] at hk; cases hk
  | k + 1, hk => by
    obtain ⟨h1, h2, h3⟩ := mulO_inv (c := c) (k := k) (by omega)
    unfold mulO
    simp only []
    split
    · rename_i h
      exact ⟨h1, h2, all_succ h3 h⟩
    · rename_i h
      have hn : nth (mulO o c (fun _ => true) k).kn k = false := by simpa using h
      have hs := h1.start v h2 (by omega) hn h3
      have hcount : cntF ⟨(mulO o c (fun _ => true) k).m, (mulO o c (fun _ => true) k).us, (mulO o c (fun _ => true) k).kn.set k true, [(k : Int)]⟩ + 1 ≤ o.1.length := by
        have a1 := count_set (K := (mulO o c (fun _ => true) k).kn) (i := k) (by rw [h1.kn]; omega) hn
        have a2 := List.count_le_length (a := false) (l := (mulO o c (fun _ => true) k).kn)
        rw [h1.kn] at a2
        show ((mulO o c (fun _ => true) k).kn.set k true).count false + 1 ≤ _
        omega
      obtain ⟨k1, k2, k3⟩ := mulR_inv v hs (f := o.1.length) (by simp only [List.length_singleton]; omega)
      refine ⟨k1, k2, all_succ (fun j hj => k3 j (nth_mono (h3 j hj))) (k3 k ?_)⟩
      show nth ((mulO o c (fun _ => true) k).kn.set k true) k = true
      rw [nth_set (by rw [h1.kn]; omega), if_pos rfl]
theorem mulO_all {c : List Int} : KAll o c (mulO o c (fun _ => true) o.1.length).m := by
  obtain ⟨h1, _, h3⟩ := mulO_inv v (c := c) (k := o.1.length) (Nat.le_refl _)
  exact ⟨h1.m, fun x hx => (h1.kx x hx).1 (h3 _ (by have := hx.1; have := hx.2; omega))⟩
theorem mulR_ok {c : List Int} {U : Int → Bool} : ∀ {f : Nat} {s : BS}, BOk o s → BOk o (mulR o c U f s)
  | 0, _, h => h
  | f + 1, s, h => by
    unfold mulR
    split
    · exact h
    · rename_i i r hq
      exact mulR_ok (mulN_ok v (c := c) (U := U) h hq).1
theorem mulO_ok {c : List Int} {U : Int → Bool} : ∀ {k : Nat}, k ≤ o.1.length → BOk o (mulO o c U k)
  | 0, _ => ⟨by simp [mulO], by simp [mulO], by simp [mulO], fun x hx => by simp [mulO] at hx⟩
  | k + 1, hk => by
    have h1 := mulO_ok (c := c) (U := U) (k := k) (by omega)
    unfold mulO
    simp only []
    split
    · exact h1
    · refine mulR_ok v ⟨h1.m, h1.us, by simpa using h1.kn, fun x hx => ?_⟩
      simp at hx; subst hx
      exact ⟨Sq.nat (by omega), by show nth ((mulO o c U k).kn.set k true) (k : Int).toNat = true; rw [Int.toNat_natCast, nth_set (by rw [h1.kn]; omega), if_pos rfl]⟩
/-- The state in which a component's search begins. -/
theorem mulO_start {c : List Int} {U : Int → Bool} {k : Nat} (hk : k < o.1.length) (hn : nth (mulO o c U k).kn k = false) : BOk o ⟨(mulO o c U k).m, (mulO o c U k).us, (mulO o c U k).kn.set k true, [(k : Int)]⟩ ∧ 1 + cntF ⟨(mulO o c U k).m, (mulO o c U k).us, (mulO o c U k).kn.set k true, [(k : Int)]⟩ ≤ o.1.length := by
  have h1 := mulO_ok v (c := c) (U := U) (k := k) (by omega)
  refine ⟨⟨h1.m, h1.us, by simpa using h1.kn, fun x hx => ?_⟩, ?_⟩
  · simp at hx; subst hx
    exact ⟨Sq.nat (by omega), by show nth ((mulO o c U k).kn.set k true) (k : Int).toNat = true; rw [Int.toNat_natCast, nth_set (by rw [h1.kn]; omega), if_pos rfl]⟩
  · have a1 := count_set (K := (mulO o c U k).kn) (i := k) (by rw [h1.kn]; omega) hn
    have a2 := List.count_le_length (a := false) (l := (mulO o c U k).kn)
    rw [h1.kn] at a2
    show 1 + ((mulO o c U k).kn.set k true).count false ≤ _
    omega
end
theorem mulO_skip {o : Ori} {c : List Int} {U : Int → Bool} {k : Nat} (h : nth (mulO o c U k).kn k = true) : mulO o c U (k + 1) = mulO o c U k := if_pos h
theorem mulO_go {o : Ori} {c : List Int} {U : Int → Bool} {k : Nat} (h : nth (mulO o c U k).kn k = false) : mulO o c U (k + 1) = mulR o c U o.1.length ⟨(mulO o c U k).m, (mulO o c U k).us, (mulO o c U k).kn.set k true, [(k : Int)]⟩ := if_neg (by rw [h]; simp)
theorem mulR_nil {o : Ori} {c : List Int} {U : Int → Bool} {f : Nat} {s : BS} (h : s.q = []) : mulR o c U f s = s := by
  cases f with
  | zero => rfl
  | succ f => unfold mulR; rw [h]
theorem mulR_next {o : Ori} {c : List Int} {U : Int → Bool} {f : Nat} {s : BS} {i : Int} {r : List Int} (h : s.q = i :: r) (hf : 0 < f) : mulR o c U f s = mulR o c U (f - 1) (mulN o c U i s) := by
  cases f with
  | zero => omega
  | succ f => rw [mulR, h]; rfl
theorem mulS_pos {c : List Int} {U : Int → Bool} {i : Int} {s : BS} {p : StepT} (h : nth s.kn p.2.1.toNat = false ∧ U p.1 = true) : mulS c U i s p = ⟨s.m.set p.2.1.toNat (W (nth s.m i.toNat + W (p.2.2 * nth c p.1.toNat))), s.us.set p.1.toNat true, s.kn.set p.2.1.toNat true, s.q ++ [p.2.1]⟩ := if_pos h
theorem mulS_neg {c : List Int} {U : Int → Bool} {i : Int} {s : BS} {p : StepT} (h : ¬ (nth s.kn p.2.1.toNat = false ∧ U p.1 = true)) : mulS c U i s p = s := if_neg h
theorem drop_at {L : List Int} {f : Nat} (h : f < L.length) : L.drop f = nth L f :: L.drop (f + 1) := by
  rw [List.drop_eq_getElem_cons h]
  congr 1
  exact (nth_of_get? (List.getElem?_eq_getElem h)).symm
theorem que_head {L L' ys : List Int} {o f : Nat} (h : L'.drop o = L.drop f ++ ys) (hf : f < L.length) : nth L' o = nth L f ∧ o < L'.length := by
  rw [drop_at hf] at h
  have ho : o < L'.length := by
    refine Nat.lt_of_not_le fun hh => ?_
    rw [List.drop_eq_nil_of_le hh] at h
    simp at h
  rw [drop_at ho] at h
  simp only [List.cons_append, List.cons.injEq] at h
  exact ⟨h.1, ho⟩
end Go.Fl

/- From the row's reading of the arguments to ours, and from a contract to the row's last step. -/
namespace Go.Fl
open Go Go.RowKit Go.ChangeShapes Go.WideShapes Go.ChangeAt
/-! ### 1. Arguments -/
def memJ (W : World) : JV := fun b o => W.cell? ⟨b, o, none⟩
theorem memJ_im (W : World) : Im (memJ W) W := fun _ _ _ h => h
/-- What the row reads, in our words; 'φ': what else is known of it. -/
structure RdT (P : Program) (t : TypeId) {α : Type} (e : Enc α) (φ : α → Prop) : Prop where
  imp : ∀ {H : Type} {enc : TypeId × Value → H} {W : World} {n : Nat} {cs : List Value} {x : DataW H × List MemPlace},
  DataW.trod enc P W 0 (fun _ => true) true n t cs = some x → (∀ m ∈ x.1.weights P t, m ≤ reachBytes) → ∃ a, e.rd (memJ W) cs a ∧ φ a
def AndP {α β : Type} (φ : α → Prop) (ψ : β → Prop) : α × β → Prop := fun x => φ x.1 ∧ ψ x.2
def UnitP : Unit → Prop := fun _ => True
def BoolP : Bool → Prop := fun _ => True
def StrP : ByteArray → Prop := fun s => s.size ≤ reachBytes
def ListP {α : Type} [Inhabited α] (φ : α → Prop) : List α → Prop := fun xs => xs.length ≤ reachBytes ∧ ∀ i, i < xs.length → φ (nth xs i)
def okI (k : IntKind) (n : Int) : Prop := (Lit.int k n).wf = true
theorem okI64 {n : Int} (h : okI .i64 n) : -9223372036854775808 ≤ n ∧ n ≤ 9223372036854775807 := by simpa [okI, Lit.wf, IntKind.min, IntKind.max, IntKind.signed, IntKind.bits] using h
theorem okI8 {n : Int} (h : okI .i8 n) : -128 ≤ n ∧ n ≤ 127 := by simpa [okI, Lit.wf, IntKind.min, IntKind.max, IntKind.signed, IntKind.bits] using h
theorem okU8 {n : Int} (h : okI .u8 n) : 0 ≤ n ∧ n ≤ 255 := by simpa [okI, Lit.wf, IntKind.min, IntKind.max, IntKind.signed, IntKind.bits] using h
theorem RdT.int {P : Program} {t : TypeId} {k : IntKind} [h : TyKind P t k] : RdT P t (eInt k) (okI k) := ⟨fun hx _ => by
  obtain ⟨n, rfl, rfl, hw⟩ := DataW.trod_int h.h hx
  exact ⟨n, rfl, hw⟩⟩
theorem RdT.bool {P : Program} {t : TypeId} [h : TyBool P t] : RdT P t eBool BoolP := ⟨fun hx _ => by
  obtain ⟨n, rfl, rfl⟩ := DataW.trod_bool h.h hx
  exact ⟨n, rfl, trivial⟩⟩
theorem RdT.str {P : Program} {t : TypeId} [h : TyString P t] : RdT P t eStr StrP := ⟨fun hx hw => by
  obtain ⟨s, rfl, rfl, _⟩ := DataW.trod_string h.h hx
  refine ⟨s, rfl, ?_⟩
  show s.size ≤ reachBytes
  have := hw s.data.toList.length (by simp [DataW.weights])
  simpa using this⟩
theorem weightsAll_mem {H : Type} {P : Program} {e : TypeId} {m : Nat} {d : DataW H} : ∀ {l : List (DataW H)}, d ∈ l → m ∈ d.weights P e → m ∈ DataW.weightsAll P e l
  | x :: r, hd, hm => by
    simp only [DataW.weightsAll, List.mem_append]
    rcases List.mem_cons.1 hd with rfl | hd
    · exact .inl hm
    · exact .inr (weightsAll_mem hd hm)
theorem RdT.slice {P : Program} {t et : TypeId} [ht : TySl P t et] {size bytes : Nat} {zz : Value} [hz : TySz P et size bytes zz] {α : Type} [Inhabited α] {e : Enc α} {φ : α → Prop} (h : RdT P et e φ) (hs : e.n = size) (hp : Nat.blt 0 size = true) (hb : Nat.blt 0 bytes = true) :
    RdT P t (eL e) (ListP φ) := ⟨fun {H enc W n cs x} hx hw => by
  obtain ⟨ti, hi, h1, h2, _⟩ := hz.h
  have hp' : 0 < size := by simpa [Nat.blt_eq] using hp
  have hb' : 0 < bytes := by simpa [Nat.blt_eq] using hb
  have hc : P.cellsOf et = size := by simp [Program.cellsOf, hi, h1]
  have hby : P.bytesOf et = bytes := by simp [Program.bytesOf, hi, h2]
  rcases DataW.trod_slice ht.h hx with ⟨rfl, rfl⟩ | ⟨a, len, cap, elems, rest, m, rfl, rfl, rfl, _, hlc, hcm, hl, hel, _, _⟩
  · exact ⟨[], rd_nil, Nat.zero_le _, fun i hi => by simp at hi⟩
  · simp only [DataW.weights, ht.h, List.mem_cons, List.mem_append] at hw
    have hlen : len ≤ reachBytes := by
      have := hw _ (.inl rfl)
      rw [hby] at this
      simp only [List.length_map] at this
      have h3 : elems.length + rest.length ≤ (elems.length + rest.length) * bytes := Nat.le_mul_of_pos_right _ hb'
      omega
    -- one by one
    have one : ∀ i, i < len → ∃ ds y, W.cells? 0 (a.add (i * size)) size = some ds ∧ e.rd (memJ W) ds y ∧ φ y := fun i hi => by
      have h4 := hel i hi
      rw [hc, List.getElem?_eq_getElem (by omega)] at h4
      cases hcs : W.cells? 0 (a.add (i * size)) size with
      | none => rw [hcs] at h4; simp at h4
      | some ds =>
        rw [hcs] at h4
        simp only [Option.bind_some] at h4
        obtain ⟨y, hy1, hy2⟩ := h.imp h4 (fun q hq => hw q (.inr (.inl (weightsAll_mem (List.mem_map.2 ⟨_, List.getElem_mem _, rfl⟩) hq))))
        exact ⟨ds, y, rfl, hy1, hy2⟩
    let f : Nat → α := fun i => if hi : i < len then (one i hi).choose_spec.choose else default
    have hf : ∀ i (hi : i < len), ∃ ds, W.cells? 0 (a.add (i * size)) size = some ds ∧ e.rd (memJ W) ds (f i) ∧ φ (f i) := fun i hi => by
      refine ⟨(one i hi).choose, ?_⟩
      simp only [f, dif_pos hi]
      exact (one i hi).choose_spec.choose_spec
    have hxl : ((List.range len).map f).length = len := by simp
    refine ⟨(List.range len).map f, ⟨some a, cap, by rw [hxl], by rw [hxl]; simp only [lenMax]; simp only [reachBytes] at hlen; omega, ?_⟩, by rw [hxl]; exact hlen, fun i hi => ?_⟩
    · by_cases h0 : len = 0
      · subst h0; exact .inl rfl
      · have hspot : a = ⟨a.block, a.off, none⟩ := by
          obtain ⟨ds, h5, _⟩ := hf 0 (by omega)
          obtain ⟨_, h6, h7⟩ := World.cells?_some h5
          have h8 := h7 0 hp'
          have h9 : ds[0]? = some (ds[0]'(by omega)) := List.getElem?_eq_getElem (by omega)
          rw [h9, Nat.zero_mul] at h8
          have ha : (a.add 0).add 0 = a := by simp [Addr.add]
          rw [ha] at h8
          unfold World.cell? at h8
          cases hsp : a.spot with
          | none => cases a; simp_all
          | some q => rw [hsp] at h8; simp at h8; split at h8 <;> simp at h8
        refine .inr ⟨a.block, a.off, by rw [← hspot], fun i y hy => ?_⟩
        have hi : i < len := by have := (List.getElem?_eq_some_iff.1 hy).1; omega
        rw [List.getElem?_map, List.getElem?_range hi] at hy
        simp only [Option.map_some, Option.some.injEq] at hy
        subst hy
        obtain ⟨ds, h5, h6, _⟩ := hf i hi
        refine ⟨ds, h6, fun j v hj => ?_⟩
        obtain ⟨_, h7, h8⟩ := World.cells?_some h5
        have hjl : j < size := by have := (List.getElem?_eq_some_iff.1 hj).1; omega
        have h9 := h8 j hjl
        rw [hj, hspot, Addr.add_lit, Addr.add_lit] at h9
        rw [hs]
        exact h9
    · rw [hxl] at hi
      obtain ⟨_, _, _, h6⟩ := hf i hi
      have h7 := nth_get (xs := (List.range len).map f) (i := i) (by rw [hxl]; exact hi)
      rw [List.getElem?_map, List.getElem?_range hi] at h7
      rw [← Option.some.inj h7]
      exact h6⟩
structure FldT (P : Program) (fs : List Field) (o : Nat) {α : Type} (e : Enc α) (φ : α → Prop) : Prop where
  imp : ∀ {H : Type} {enc : TypeId × Value → H} {W : World} {n : Nat} {cs : List Value} {xs : List (DataW H × List MemPlace)},
  (∀ (i : Nat) (f : Field), fs[i]? = some f → DataW.trod enc P W 0 (fun _ => true) true n f.type ((cs.drop (f.offset - o)).take (P.cellsOf f.type)) = xs[i]?) → xs.length = fs.length → cs.length = (fs.map fun f : Field => P.cellsOf f.type).sum →
    (∀ m ∈ DataW.weightsEach P (fs.map fun f : Field => f.type) (xs.map (·.1)), m ≤ reachBytes) → ∃ a, e.rd (memJ W) cs a ∧ φ a
theorem FldT.nil {P : Program} {o : Nat} : FldT P [] o eU UnitP := ⟨fun {H enc W n cs xs} _ _ hc _ => by
  simp at hc
  subst hc
  exact ⟨(), rfl, trivial⟩⟩
theorem FldT.cons {P : Program} {f : Field} {fs : List Field} {o size bytes : Nat} {zz : Value} {ft : TypeId} [hz : TySz P ft size bytes zz] {α β : Type} {e : Enc α} {e' : Enc β} {φ : α → Prop} {ψ : β → Prop} (h : RdT P ft e φ) (hft : f.type = ft) (ho : f.offset = o) (hge : (fs.all fun g => Nat.ble (o + size) g.offset) = true)
    (r : FldT P fs (o + size) e' ψ) : FldT P (f :: fs) o (eP e e') (AndP φ ψ) := ⟨fun {H enc W n cs xs} hx hl hc hw => by
  subst hft
  obtain ⟨ti, hi, h1, h2, _⟩ := hz.h
  have hcs : P.cellsOf f.type = size := by simp [Program.cellsOf, hi, h1]
  cases xs with
  | nil => simp at hl
  | cons x xs =>
    have h0 := hx 0 f rfl
    rw [ho, Nat.sub_self, List.drop_zero, hcs] at h0
    simp only [List.getElem?_cons_zero] at h0
    simp only [List.map_cons, DataW.weightsEach, List.mem_append] at hw
    simp only [List.map_cons, List.sum_cons, hcs] at hc
    obtain ⟨a, k1, k2⟩ := h.imp h0 (fun m hm => hw m (.inl hm))
    obtain ⟨b, k3, k4⟩ := r.imp (H := H) (enc := enc) (W := W) (n := n) (cs := cs.drop size) (xs := xs) (fun i g hg => by
      have := hx (i + 1) g (by simpa using hg)
      simp only [List.getElem?_cons_succ] at this
      rw [← this, List.drop_drop]
      have hb := Nat.le_of_ble_eq_true (List.all_eq_true.1 hge g (List.mem_of_getElem? hg))
      rw [show size + (g.offset - (o + size)) = g.offset - o by omega]) (by simpa using hl) (by rw [List.length_drop]; omega) (fun m hm => hw m (.inr hm))
    exact ⟨(a, b), ⟨cs.take size, cs.drop size, (List.take_append_drop _ _).symm, k1, k3⟩, k2, k4⟩⟩
theorem RdT.struct {P : Program} {t : TypeId} {fs : Array Field} {l : List Field} (hu : P.underlying t = some (.struct fs)) (hl : fs.toList = l) {α : Type} {e : Enc α} {φ : α → Prop} (hsz : P.cellsOf t = (l.map fun f : Field => P.cellsOf f.type).sum) (F : FldT P l 0 e φ) : RdT P t e φ := ⟨fun {H enc W n cs x} hx hw => by
  subst hl
  obtain ⟨xs, m, rfl, rfl, hc, hn, hf⟩ := DataW.trod_struct hu hx
  simp only [DataW.weights, hu] at hw
  exact F.imp (fun i f hf' => by rw [Nat.sub_zero]; exact hf i f (by simpa using hf')) (by simpa using hn) (hc.trans hsz) hw⟩
theorem RdT.conv {P : Program} {t : TypeId} {α β : Type} {e : Enc α} {φ : α → Prop} (h : RdT P t e φ) {e' : Enc β} (f : α → β) (hf : ∀ J cs a, e.rd J cs a → e'.rd J cs (f a)) {ψ : β → Prop} (hψ : ∀ a, φ a → ψ (f a)) : RdT P t e' ψ := ⟨fun hx hw => by
  obtain ⟨a, h1, h2⟩ := h.imp hx hw
  exact ⟨f a, hf _ _ _ h1, hψ _ h2⟩⟩
structure ArrT (P : Program) (et : TypeId) (k : Nat) {α : Type} (e : Enc α) (φ : α → Prop) : Prop where
  imp : ∀ {H : Type} {enc : TypeId × Value → H} {W : World} {n : Nat} {cs : List Value} {xs : List (DataW H × List MemPlace)},
  (∀ i, i < k → DataW.trod enc P W 0 (fun _ => true) true n et ((cs.drop (i * P.cellsOf et)).take (P.cellsOf et)) = xs[i]?) → xs.length = k → cs.length = k * P.cellsOf et → (∀ m ∈ DataW.weightsAll P et (xs.map (·.1)), m ≤ reachBytes) → ∃ a, e.rd (memJ W) cs a ∧ φ a
theorem ArrT.nil {P : Program} {et : TypeId} : ArrT P et 0 eU UnitP := ⟨fun {H enc W n cs xs} _ _ hc _ => by
  simp at hc
  subst hc
  exact ⟨(), rfl, trivial⟩⟩
theorem ArrT.cons {P : Program} {et : TypeId} {k : Nat} {α β : Type} {e : Enc α} {e' : Enc β} {φ : α → Prop} {ψ : β → Prop} (h : RdT P et e φ) (r : ArrT P et k e' ψ) : ArrT P et (k + 1) (eP e e') (AndP φ ψ) := ⟨fun {H enc W n cs xs} hx hl hc hw => by
  cases xs with
  | nil => simp at hl
  | cons x xs =>
    have h0 := hx 0 (by omega)
    rw [Nat.zero_mul, List.drop_zero] at h0
    simp only [List.getElem?_cons_zero] at h0
    simp only [List.map_cons, DataW.weightsAll, List.mem_append] at hw
    obtain ⟨a, k1, k2⟩ := h.imp h0 (fun m hm => hw m (.inl hm))
    obtain ⟨b, k3, k4⟩ := r.imp (H := H) (enc := enc) (W := W) (n := n) (cs := cs.drop (P.cellsOf et)) (xs := xs) (fun i hi => by
      have := hx (i + 1) (by omega)
      simp only [List.getElem?_cons_succ] at this
      rw [← this, List.drop_drop, Nat.succ_mul, Nat.add_comm]) (by simpa using hl) (by rw [List.length_drop, hc, Nat.succ_mul]; omega) (fun m hm => hw m (.inr hm))
    exact ⟨(a, b), ⟨cs.take (P.cellsOf et), cs.drop (P.cellsOf et), (List.take_append_drop _ _).symm, k1, k3⟩, k2, k4⟩⟩
theorem RdT.arr {P : Program} {t et : TypeId} {k : Nat} [ht : TyArr P t k et] {α : Type} {e : Enc α} {φ : α → Prop} (hsz : P.cellsOf t = k * P.cellsOf et) (F : ArrT P et k e φ) : RdT P t e φ := ⟨fun {H enc W n cs x} hx hw => by
  obtain ⟨xs, m, rfl, rfl, hc, hn, hf⟩ := DataW.trod_array ht.h hx
  simp only [DataW.weights, ht.h] at hw
  exact F.imp hf hn (hc.trans hsz) hw⟩
theorem not_ok_agg {P : Program} {W : World} {r : Reach} {base : Nat} {t : TypeId} {cs : Array Value} (h : Cell.ok P W r base t (.agg cs)) : False := by
  unfold Cell.ok at h
  revert h
  split <;> simp_all
/-- One argument, opened. -/
theorem RdT.val {P : Program} {t : TypeId} {α : Type} {e : Enc α} {φ : α → Prop} (h : RdT P t e φ) (hag : (match P.underlying t with | some (.struct _) | some (.array _ _) => true | _ => false) = e.agg) {H : Type} {enc : TypeId × Value → H} {W : World} {base : Nat} {v : Value} {d : DataW H} {ps : List MemPlace}
    (hv : Value.okWide P W .any base t v) (ht : DataW.Trod enc P W 0 (fun _ => true) true t v d ps) (hw : ∀ m ∈ d.weights P t, m ≤ reachBytes) : ∃ a, kRd e a ⟨memJ W, noM⟩ v ∧ φ a := by
  obtain ⟨n, hn⟩ := ht
  obtain ⟨a, h1, h2⟩ := h.imp hn hw
  refine ⟨a, ⟨_, h1, ?_⟩, h2⟩
  cases hb : e.agg with
  | true =>
    rw [hb] at hag
    unfold Value.okWide at hv
    split at hv
    · obtain ⟨cs, rfl, _⟩ := hv; simp [Value.cells]
    · obtain ⟨cs, rfl, _⟩ := hv; simp [Value.cells]
    · rename_i h3 h4
      exfalso
      revert hag
      split
      · rename_i fs hq; exact fun _ => h3 _ hq
      · rename_i q r hq; exact fun _ => h4 _ _ hq
      · intro hf; cases hf
  | false =>
    obtain ⟨h3, h4⟩ := e.one hb
    have hl := e.len h1
    rw [h3] at hl
    simp only [Bool.false_eq_true, if_false]
    cases v with
    | agg cs =>
      exfalso
      rw [hb] at hag
      unfold Value.okWide at hv
      split at hv
      · rename_i fs hq; rw [hq] at hag; cases hag
      · rename_i q r hq; rw [hq] at hag; cases hag
      · have : Cell.ok P W .any base t (.agg cs) := by
          unfold Cell.okWide at hv
          split at hv <;> first | (rename_i hq; cases hq; done) | exact hv
        exact not_ok_agg this
    | _ => simp [Value.cells]
end Go.Fl

/- The last step of a law's row. -/
namespace Go.Fl
open Go Go.RowKit Go.ChangeShapes Go.WideShapes Go.ChangeAt
def szB (P : Program) : Bool := (List.range P.types.size).all fun t => match P.underlying t with | some (.slice e) => Nat.blt 0 (P.cellsOf e) | _ => true
theorem szB_spec {P : Program} (h : szB P = true) {t e : TypeId} (ht : t < P.types.size) (hu : P.underlying t = some (.slice e)) : 0 < P.cellsOf e := by
  have := List.all_eq_true.1 h t (List.mem_range.2 ht)
  rw [hu] at this
  simpa [Nat.blt_eq] using this
section
variable {H : Type} {enc : TypeId × Value → H} {P : Program}
theorem trodAll_stays (hl : laidOutB P = true) (hm : mapsRowed P = true) (hz : szB P = true) {W W' : World} {sp : Nat → Bool} : ∀ {ts : List TypeId} {vs : List Value} {ds : List (DataW H)} {ps : List MemPlace}, (∀ t ∈ ts, t < P.types.size) → DataW.TrodAll enc P W 0 (fun _ => true) true ts vs ds ps →
    (∀ p ∈ ps, W.sameAt W' p) → (∀ p ∈ ps, sp p.block = true) → DataW.TrodAll enc P W' 0 sp true ts vs ds ps
  | [], [], [], ps, _, h, _, _ => h
  | t :: ts, v :: vs, d :: ds, ps, ht, h, hs, hp => by
    obtain ⟨p, q, ⟨n, hn⟩, h2, rfl⟩ := h
    refine ⟨p, q, ⟨n, ?_⟩, trodAll_stays hl hm hz (fun u hu => ht u (List.mem_cons_of_mem _ hu)) h2 (fun x hx => hs x (List.mem_append.2 (.inr hx))) (fun x hx => hp x (List.mem_append.2 (.inr hx))), rfl⟩
    exact DataW.trod_stays (kids_rows hl hm) (fun ht hu => szB_spec hz ht hu) (fun h => by cases h) (ht t List.mem_cons_self) hn (fun x hx => hs x (List.mem_append.2 (.inl hx))) (fun x hx => hp x (List.mem_append.2 (.inl hx)))
  | [], _ :: _, _, _, _, h, _, _ => h.elim
  | [], [], _ :: _, _, _, h, _, _ => h.elim
  | _ :: _, [], _, _, _, h, _, _ => h.elim
  | _ :: _, _ :: _, [], _, _, h, _, _ => h.elim
theorem law_post {f : Func} {s : ChangeSpec} {W W' : World} {args : Array Value} {ds gs : List (DataW H)} {before : List MemPlace} {tb : TypeId} (hl : laidOutB P = true) (hm : mapsRowed P = true) (hz : szB P = true) (hW : DataW.Whole enc P f.params.toList s.vars false W args.toList ds gs before)
    (hts : (f.params.toList.all fun t => Nat.blt t P.types.size) = true) (hv : s.vars = []) (hfn : gs = [] → s.fn H (ds ++ gs) = { results := [.lit (.bool true)], args := ds }) (hr : f.resultTypes = #[tb]) (hb : P.underlying tb = some .bool) (hbel : Below W.heap.size W W') :
    s.post enc P f false true false false W args (.bool true) W' := by
  have hW' := hW
  obtain ⟨p, q, hA, hV, rfl, _, _⟩ := hW
  rw [hv] at hV
  obtain ⟨rfl, rfl⟩ := trodVars_none hV
  simp only [List.append_nil] at hW'
  have hfn' := hfn rfl
  have hlt : ∀ x ∈ p, x.block < W.heap.size := fun x hx => hW'.lt x hx
  refine ⟨ds, [], p, [], p, [], hW', ?_, ?_, ?_, hbel.frame _, fun h => by cases h⟩
  · rw [hfn', hr]
    exact trodAll_mk1 (shut_bool hb _)
  · rw [hfn']
    refine trodAll_stays hl hm hz (fun t ht => ?_) hA (fun x hx => ?_) (fun x hx => by simpa using hlt x hx)
    · have := List.all_eq_true.1 hts t ht
      simpa [Nat.blt_eq] using this
    · cases x with
      | cell b o => exact hbel.cell (p := ⟨b, o, none⟩) (hlt _ hx)
      | map b => exact hbel.block b (hlt _ hx)
  · rw [hfn', hv]; exact rfl
theorem weights_cons {t : TypeId} {ts : List TypeId} {d : DataW H} {ds : List (DataW H)} (h : (DataW.weightsEach P (t :: ts) (d :: ds)).all (· ≤ reachBytes) = true) : (∀ m ∈ d.weights P t, m ≤ reachBytes) ∧ (DataW.weightsEach P ts ds).all (· ≤ reachBytes) = true := by
  simp only [DataW.weightsEach, List.all_append, Bool.and_eq_true] at h
  exact ⟨fun m hm => by simpa using List.all_eq_true.1 h.1 m hm, h.2⟩
end
theorem Ct.law {P : Program} {f : FuncId} {args : List Know} (h : Ct P f args (kB true)) {W : World} {vs : Array Value} (hv : allK ⟨memJ W, noM⟩ args vs.toList) {Q : Ending → World → Prop} (hq : ∀ W', Below W.heap.size W W' → Q (.returned (.bool true)) W') : Calls P f vs W Q := by
  have := h W (memJ W) (memJ_im W) vs.toList hv
  refine this.mono fun e W' ⟨r, J', he, hb, _, _, _, hr⟩ => ?_
  subst he
  rw [show r = .bool true from hr]
  exact hq W' hb
theorem kI_rd {k : IntKind} {n : Int} {g : Gh} {v : Value} (h : kRd (eInt k) n g v) : kDet (.int k n) g v := by
  obtain ⟨_, rfl, rfl⟩ := h; rfl
theorem kS_rd {n : ByteArray} {g : Gh} {v : Value} (h : kRd eStr n g v) : kDet (.string n) g v := by
  obtain ⟨_, rfl, rfl⟩ := h; rfl
theorem kB_rd {n : Bool} {g : Gh} {v : Value} (h : kRd eBool n g v) : kDet (.bool n) g v := by
  obtain ⟨_, rfl, rfl⟩ := h; rfl
end Go.Fl

/- Function values as arguments: what is known of what they answer. Shorter words for the walks. -/
namespace Go.Fl
open Go Go.RowKit
theorem rr {p : Prop} : p → true = true := fun _ => rfl
/-- A function value that answers as a family of contracts says. -/
def kFun {α : Type} (P : Program) (φ : α → Prop) (ks : α → List Know) (res : α → Know) : Know := fun g v => ∃ f first, v = .func (.func f) first #[] ∧ TyFn P f ∧ ∀ a, φ a → ∀ w J, g.J.le J → Im J w → ∀ vs, allK ⟨J, noM⟩ (ks a) vs → Calls P f (first ++ vs.toArray) w (RetR w J (res a))
instance {α : Type} {P : Program} {φ : α → Prop} {ks : α → List Know} {res : α → Know} : KDep (kFun P φ ks res) [] := ⟨fun hl _ ⟨f, first, h1, h2, h3⟩ => ⟨f, first, h1, h2, fun a ha w J hJ => h3 a ha w J (JV.le_trans hl hJ)⟩⟩
theorem kFun_ct {α : Type} {P : Program} {f : FuncId} [hf : TyFn P f] {φ : α → Prop} {ks : α → List Know} {res : α → Know} (h : ∀ a, φ a → Ct P f (ks a) (res a)) (g : Gh) (v : Value) (hv : kDet (.func (.func f) #[] #[]) g v) : kFun P φ ks res ⟨g.J, noM⟩ v :=
  ⟨f, #[], hv, hf, fun a ha w J _ him vs hvs => by rw [Array.empty_append]; exact h a ha w J him vs hvs⟩
section
variable {P : Program} {c : Ctx} {S : Slots} {M : Conts} {p : Bool} {d : Option Tmp} {ty : TypeId} {pos : String} {af : Array Edge} {gd : Option (Nat × Bool)} {x : Operand} {b : Bool}
theorem ok_callF {α : Type} (a : α) {φ : α → Prop} {ks : α → List Know} {res : α → Know} {args : List Operand} {tys : Array TypeId} (hx : opK S x = some (b, kFun P φ ks res)) (hb : p = true → b = true) (ha : p = true → φ a) (hargs : ArgsOk S p args (ks a)) [hk : KDep (res a) []] :
    OpOk P c S M ⟨d, .call { callee := .value x, args := args.toArray, argTypes := tys }, ty, pos, af, gd⟩ p (res a) none := by
  intro hp q g w hok hc ho _
  obtain ⟨f, first, hfv, hf, hct⟩ := ho x (by simp [Op.operands, Call.operands]) b _ hx (hb hp)
  have hvs := hargs.eval (g := g) (ρ := q.eval) hp (fun y hy b k hk hb => ho y (by simp [Op.operands, Call.operands, hy]) b k hk hb)
  have hr := hct a (ha hp) w g.J (JV.le_refl _) hok.im _ hvs
  unfold Oper.wp
  simp only [execOp, resolve, hfv, Deferred.ofValue, Sem.run_bind, Sem.run_pure, Result.andThen_ok, invoke, List.map_toArray, Array.append_empty]
  rw [hf.run]
  simp only [Oper.upon]
  refine hr.mono fun e w' he => ?_
  obtain ⟨r, J', rfl, hbel, hJ, hold, him, hres⟩ := he
  exact ⟨r, _, rfl, Did.call hok hbel hJ hold him hres⟩
end
end Go.Fl

/- Slices of the call's own that begin behind the head of their row: queues. -/
namespace Go.Fl
open Go Go.RowKit
/-- A slice of the call's own row, from its element 'off' on; n: the cells of an element. -/
def kOsq (t n off len : Nat) : Know := fun g v => ∃ b cap o, g.M t = some (.blk b cap) ∧ off + len ≤ cap ∧ (off < cap → o = off * n) ∧ v = .slice (some ⟨b, o, none⟩) len (cap - off)
instance (t n o l : Nat) : KDep (kOsq t n o l) [t] := ⟨fun _ hd ⟨b, cap, a, h1, h2⟩ => ⟨b, cap, a, (hd t (by simp)).trans h1, h2⟩⟩
instance (t n o l : Nat) : KHas (kOsq t n o l) t := ⟨fun ⟨b, cap, a, h1, _⟩ => by rw [h1]; simp⟩
section
variable {P : Program} {c : Ctx} {S : Slots} {M : Conts} {p : Bool} {d : Option Tmp} {ty : TypeId} {pos : String} {af : Array Edge} {gd : Option (Nat × Bool)} {x y : Operand} {b b' : Bool}
theorem ok_bslQ {t et : TypeId} [ht : TySl P t et] {size bytes : Nat} {zz : Value} [hsz : TySz P et size bytes zz] {α : Type} (e : Enc α) {xs : List α} {len : Nat} {parts : List (Nat × Operand)} (u : Nat) (h : p = true → ElemsOk S e 0 parts xs) (hl : xs.length = len)
    (hs : size = e.n) (hsm : Nat.ble (len * size) 16777216 = true) (hpos : Nat.blt 0 (len * size) = true) :
    OpOk P c S M ⟨d, .buildSlice t len parts.toArray, ty, pos, af, gd⟩ p (kOsq u size 0 len) (some ⟨u, [], cArr false et e xs len⟩) := by
  intro hp a g w hok hc ho hf
  have hf' := hf _ rfl
  obtain ⟨i, hi, rfl, rfl, hzz⟩ := hsz.h
  have hsm' := Nat.le_of_ble_eq_true hsm
  have hpos' : 0 < len * i.size := by simpa [Nat.blt_eq] using hpos
  obtain ⟨cs, h1, h2, _, h4⟩ := (h hp).fill (g := g) (ρ := a.eval) (fun y hy b k hk hb => ho y.2 (by simp only [Op.operands]; simp; exact ⟨y.1, hy⟩) b k hk hb) (cells := (Array.range (len * i.size)).map (zz.cells[· % zz.cells.size]!)) (by simp [hl, hs])
  have hmap : (parts.toArray.map fun (y : Nat × Operand) => (y.1, a.eval y.2)).toList = parts.map fun y => (y.1, a.eval y.2) := by simp
  rw [← hs] at h1
  have hr := run_buildSlice (P := P) w t et len (parts.toArray.map fun (y : Nat × Operand) => (y.1, a.eval y.2)) cs i zz ht.h hi hzz (by omega) (by omega) (by rw [hmap]; exact h1)
  unfold Oper.wp
  simp only [execOp, Sem.run_bind]
  rw [show (parts.toArray.map fun x : Nat × Operand => match x with | (i, x) => (i, a.eval x)) = parts.toArray.map fun (y : Nat × Operand) => (y.1, a.eval y.2) from rfl, hr]
  simp only [Result.andThen_ok, Sem.run_pure, Oper.upon]
  refine ⟨_, _, rfl, Did.alloc (cap := len) hok hf' (.inl rfl) ⟨_, _, 0, Gh.add_same _ _ _, by omega, fun _ => by omega, rfl⟩ ⟨hl, fun h => (by cases h), cs, rfl, ?_, Nat.le_refl _, ?_, fun k x hx => ?_⟩⟩
  · rw [h2]; simp [hs]
  · have : len ≤ len * i.size := Nat.le_mul_of_pos_right _ (Nat.pos_of_ne_zero (fun h0 => by rw [h0] at hpos'; simp at hpos'))
    simp only [maxLen]; omega
  · obtain ⟨ds, k1, k2⟩ := h4 k x hx
    exact ⟨ds, k1, fun j v hj => by have := k2 j v hj; simpa using this⟩
theorem ok_lenQ {t : TypeId} {e' : TypeId} [ht : TySl P t e'] {u n off len : Nat} (hx : opK S x = some (b, kOsq u n off len)) (hb : p = true → b = true) : OpOk P c S M ⟨d, .call { callee := .builtin .len, args := #[x], argTypes := #[t] }, ty, pos, af, gd⟩ p (kI len) none :=
  OpOk.pure fun hp a g w _ _ ho => by
    obtain ⟨_, _, _, _, _, _, h2⟩ := ho x (by simp [Op.operands, Call.operands]) b _ hx (hb hp)
    exact ⟨_, by simp [execOp, resolve, invoke, builtin, Builtin.len_, h2, run_underlying ht.h, goInt], rfl⟩
theorem ok_idxQ {t et : TypeId} [ht : TySl P t et] {sz by' : Nat} {zz : Value} [hz : TySz P et sz by' zz] {u off len : Nat} {ik : IntKind} {i : Int} (hx : opK S x = some (b, kOsq u sz off len)) (hb : p = true → b = true) (hy : opK S y = some (b', kInt ik i)) (hb' : p = true → b' = true)
    (h : p = true → 0 ≤ i ∧ i < len) : OpOk P c S M ⟨d, .indexAddr t x y, ty, pos, af, gd⟩ p (kEl u sz (off + i.toNat) (off + len)) none :=
  OpOk.pure fun hp a g w _ _ ho => by
    have hi : a.eval y = _ := ho y (by simp [Op.operands]) b' _ hy (hb' hp)
    have hlt := h hp
    obtain ⟨bk, cap, o, h1, h3, h4, h2⟩ := ho x (by simp [Op.operands]) b _ hx (hb hp)
    have ho' := h4 (by omega)
    exact ⟨.pointer (some ⟨bk, o + i.toNat * sz, none⟩), by simp only [execOp, h2, hi, Sem.run_bind, idx_run (P := P) hlt, Result.andThen_ok, Sem.run_pure], by omega, bk, cap, h1, by rw [ho', Nat.add_mul]⟩
/-- 'q[l:]'. -/
theorem ok_slQ {t et : TypeId} [ht : TySl P t et] {sz by' : Nat} {zz : Value} [hz : TySz P et sz by' zz] {u off len : Nat} {ik : IntKind} {i : Int} (hx : opK S x = some (b, kOsq u sz off len)) (hb : p = true → b = true) (hy : opK S y = some (b', kInt ik i)) (hb' : p = true → b' = true)
    (h : p = true → 0 ≤ i ∧ i ≤ len) : OpOk P c S M ⟨d, .slice t x (some y) none none, ty, pos, af, gd⟩ p (kOsq u sz (off + i.toNat) (len - i.toNat)) none :=
  OpOk.pure fun hp a g w _ _ ho => by
    have hi : a.eval y = _ := ho y (by simp [Op.operands]) b' _ hy (hb' hp)
    have hlt := h hp
    obtain ⟨bk, cap, o, h1, h3, h4, h2⟩ := ho x (by simp [Op.operands]) b _ hx (hb hp)
    obtain ⟨j, hj, rfl, rfl, _⟩ := hz.h
    refine ⟨.slice (if cap - off = i.toNat then some ⟨bk, o, none⟩ else some ⟨bk, o + i.toNat * j.size, none⟩) (len - i.toNat) (cap - off - i.toNat), ?_, bk, cap, (if cap - off = i.toNat then o else o + i.toNat * j.size), h1, by omega, fun hc => ?_, ?_⟩
    · have hun : P.underlying t = some (.slice (P.elem t)) := by rw [ht.h]; simp [Program.elem, ht.h]
      have hel : P.elem t = et := by simp [Program.elem, ht.h]
      simp only [execOp, h2, hi, Option.map]
      rw [Sem.run_bind, run_sliceAt_slice w t _ _ _ _ hun, run_slice_l w t _ len (cap - off) hun ik i hlt.1 hlt.2, hel]
      have hsz : (sizeOf et).run P w = .ok j.size w := by simp [sizeOf, typeInfo, hj]
      simp only [Result.andThen_ok, Sem.run_pure, hsz, sliced, Option.map, Addr.add_lit]
    · rw [if_neg (by omega), h4 (by omega), Nat.add_mul]
    · rw [show cap - (off + i.toNat) = cap - off - i.toNat by omega]
      split <;> rfl
variable {ops : Array Oper} {rest : List Oper} {Q : Exit → Act → World → Prop} {dd : Nat}
/-- An append to a queue: in place, or onto a new row. -/
theorem TrL.appQ {t et : TypeId} [ht : TySl P t et] {size bytes : Nat} {zz : Value} [hsz : TySz P et size bytes zz] {α : Type} {e : Enc α} {xs ys : List α} {u off len len' m : Nat} {dep : List Nat} {k : Know} {M' : List α → Nat → Conts}
    (hx : opK S x = some (true, kOsq u size off len)) [hl : LkM M u (cArr false et e xs len') dep] (hle : off + len = len') (hy : opK S y = some (true, k)) [hsrc : Src M k e ys] (hm : ys.length = m) (hup : ∀ L n, UpM M u (cArr false et e L n) [] (M' L n))
    (hs : size = e.n) (hzz : zz.cells.size = size) (hpos : 0 < size) (hnd : noDep u M = true) (hn : Nat.blt dd c.n = true) (h63 : len' + m ≤ 9223372036854775807) (hb : (len' + m) * bytes ≤ 140737488355328)
    (K : ∀ (L : List α) (o : Nat), (o = off ∧ L = xs ++ ys) ∨ (o = 0 ∧ L = xs.drop off ++ ys) → TrL P c ops (⟨dd, true, [u], kOsq u size o (len + m)⟩ :: inv u S) (M' L (o + (len + m))) rest Q) :
    TrL P c ops S M (⟨some dd, .call { callee := .builtin .append, args := #[x, y], argTypes := #[t, t] }, ty, pos, af, none⟩ :: rest) Q := by
  intro a g w hsat
  subst hle hm
  obtain ⟨i, hi, rfl, rfl, hz⟩ := hsz.h
  have hdn : dd < c.n := by simpa [Nat.blt_eq] using hn
  obtain ⟨b, cap, ad0, hm, hoc, had, ex⟩ := opK_holds hsat.slots hx rfl
  have hk2 := hsrc.imp hsat.ok hsat.conts (opK_holds hsat.slots hy rfl)
  obtain ⟨news, ad, c2, e2, n1, n2, n3, n4⟩ := src_cells (P := P) hk2
  rw [← hs] at n1 n4
  obtain ⟨h0, _, cs, h3, h4, h5, h6, h7⟩ := arr_of (xs := xs) hsat.conts hm
  refine wpList_plain rfl fun K' hK' => ?_
  unfold Oper.wp
  simp only [execOp, resolve, invoke, builtin, Sem.run_bind, Sem.run_pure, Result.andThen_ok, List.map_toArray, List.map_cons, List.map_nil]
  have finish : ∀ {bk' : Bk} {w' : World} {v' : Value} (L : List α) (o : Nat), (o = off ∧ L = xs ++ ys) ∨ (o = 0 ∧ L = xs.drop off ++ ys) → But (.blk b cap) w w' → (∀ b2 cap2, bk' = .blk b2 cap2 → (∃ cap0, Bk.blk b cap = .blk b2 cap0) ∨ (w.heap.size ≤ b2 ∧ b2 < w'.heap.size)) →
      cArr false et e L (o + (len + ys.length)) ⟨g.J, fun t => if t = u then some bk' else g.M t⟩ bk' (World.objAt w' bk') → kOsq u i.size o (len + ys.length) ⟨g.J, fun t => if t = u then some bk' else g.M t⟩ v' →
      (Builtin.append_ #[t, t] ty #[a.eval x, a.eval y]).run P w = .ok v' w' →
      Oper.upon P ⟨some dd, .call { callee := .builtin .append, args := #[x, y], argTypes := #[t, t] }, ty, pos, af, none⟩ a K' Q (((Builtin.append_ #[t, t] ty #[a.eval x, a.eval y]).run P w).andThen fun v w => .ok (.value v) w) := by
    intro bk' w' v' L o hLo hbut hbk hct hkk hr
    rw [hr]
    simp only [Result.andThen_ok, Oper.upon]
    exact hK' _ _ (K L o hLo _ _ _ (hsat.rebind hm hbut (hup L _) hnd inferInstance hbk hct hdn hkk))
  have hcl : (off + len) * e.n ≤ cs.size := by rw [h4]; exact Nat.mul_le_mul_right _ h5
  by_cases hroom : off + len + ys.length ≤ cap
  · by_cases hzero : off < cap
    · have hst := run_storeCells_at P b ((off + len) * e.n) et news 0 cs w h3 (by rw [n1, hs, Nat.add_zero, ← Nat.add_mul, h4]; exact Nat.mul_le_mul_right _ hroom) n2
      simp only [Nat.add_zero] at hst
      have holdl : (cs.toList.take ((off + len) * e.n)).length = (off + len) * e.n := by simp; omega
      have hold : ∀ i x, xs[i]? = some x → ∃ ds, e.rd g.J ds x ∧ ∀ j v, ds[j]? = some v → (cs.toList.take ((off + len) * e.n))[i * e.n + j]? = some v := fun i x hx => by
        obtain ⟨ds, q1, q2⟩ := h7 i x hx
        refine ⟨ds, q1, fun j v hj => ?_⟩
        have hil := (List.getElem?_eq_some_iff.1 hx).1
        have hjl := (List.getElem?_eq_some_iff.1 hj).1
        rw [e.len q1] at hjl
        have : (i + 1) * e.n ≤ (off + len) * e.n := Nat.mul_le_mul_right _ (by omega)
        rw [Nat.succ_mul] at this
        rw [List.getElem?_take, if_pos (by omega)]
        simpa using q2 j v hj
      refine finish (bk' := .blk b cap) (w' := w.setRow b (cs.toList.take ((off + len) * e.n) ++ news ++ cs.toList.drop ((off + len) * e.n + news.length)).toArray) (v' := .slice (some ⟨b, ad0, none⟩) (len + ys.length) (cap - off)) (xs ++ ys) off (.inl ⟨rfl, rfl⟩) ⟨rfl, rfl, rfl, by simp, fun k _ hk => setRow_other w b k _ (fun e' => hk cap (by rw [e']))⟩ (fun b' cap' hb => by cases hb; exact .inl ⟨_, rfl⟩) ?_ ⟨_, _, _, if_pos rfl, by omega, had, rfl⟩ ?_
      · refine ⟨by simp [h0]; omega, (fun hz0 => by cases hz0), _, setRow_heap w b cs _ et (0, 0) h3, ?_, by omega, h6, fun i' x' hx' => ?_⟩
        · simp [n1, hs]; rw [Nat.min_eq_left hcl]; have : (off + len) * e.n + ys.length * e.n ≤ cs.size := by rw [← Nat.add_mul, h4]; exact Nat.mul_le_mul_right _ hroom
          omega
        · obtain ⟨ds, q1, q2⟩ := arr_append (cs := cs.toList.take ((off + len) * e.n) ++ news ++ cs.toList.drop ((off + len) * e.n + news.length)) (by rw [holdl, h0]) (fun j v hj => by rw [List.getElem?_append_left (List.getElem?_eq_some_iff.1 hj).1]; exact hj) hold n3 i' x' hx'
          exact ⟨ds, q1, fun j v hj => by have := q2 j v hj; simpa using this⟩
      · rw [ex, e2, run_app_room ht.h hi (e2 ▸ n4 w rfl) (by omega)]
        simp only [Addr.add_lit, hs]
        rw [had hzero, hs, ← Nat.add_mul, hst]
        rfl
    · have hy0 : ys = [] := List.eq_nil_of_length_eq_zero (by omega)
      subst hy0
      have hnews : news = [] := List.eq_nil_of_length_eq_zero (by simpa using n1)
      subst hnews
      refine finish (bk' := .blk b cap) (w' := w) (v' := .slice (some ⟨b, ad0, none⟩) len (cap - off)) (xs ++ []) off (.inl ⟨rfl, rfl⟩) ⟨rfl, rfl, rfl, Nat.le_refl _, fun _ _ _ => rfl⟩ (fun b' cap' hb => by cases hb; exact .inl ⟨_, rfl⟩) ?_ ⟨_, _, _, if_pos rfl, by simpa using hoc, had, rfl⟩ ?_
      · rw [List.append_nil]
        exact ⟨by simpa using h0, (fun hz0 => by cases hz0), cs, h3, h4, h5, h6, h7⟩
      · rw [ex, e2, run_app_room ht.h hi (e2 ▸ n4 w rfl) (by simp; omega)]
        rfl
  · have hcells : ∀ j v, ((cs.toList.take ((off + len) * e.n)).drop (off * e.n))[j]? = some v → w.cell? ⟨b, off * e.n + j, none⟩ = some v := fun j v hj => by
      rw [List.getElem?_drop, List.getElem?_take] at hj
      split at hj
      · exact cell_own h3 (by simpa using hj)
      · cases hj
    have hol : ((cs.toList.take ((off + len) * e.n)).drop (off * e.n)).length = len * e.n := by
      rw [List.length_drop, List.length_take, Array.length_toList, Nat.min_eq_left hcl, Nat.add_mul]; omega
    have holds : ∀ i x, (xs.drop off)[i]? = some x → ∃ ds, e.rd g.J ds x ∧ ∀ j v, ds[j]? = some v → ((cs.toList.take ((off + len) * e.n)).drop (off * e.n))[i * e.n + j]? = some v := fun i x hx => by
      rw [List.getElem?_drop] at hx
      obtain ⟨ds, q1, q2⟩ := h7 _ x hx
      refine ⟨ds, q1, fun j v hj => ?_⟩
      have hil := (List.getElem?_eq_some_iff.1 hx).1
      have hjl := (List.getElem?_eq_some_iff.1 hj).1
      rw [e.len q1] at hjl
      have : (off + i + 1) * e.n ≤ (off + len) * e.n := Nat.mul_le_mul_right _ (by omega)
      rw [Nat.succ_mul, Nat.add_mul] at this
      have q3 := q2 j v hj
      rw [Nat.add_mul] at q3
      rw [List.getElem?_drop, List.getElem?_take, if_pos (by omega), show off * e.n + (i * e.n + j) = off * e.n + i * e.n + j by omega]
      simpa using q3
    have hfo : (Builtin.firstCells i.size len (.slice (some ⟨b, ad0, none⟩) len (cap - off))).run P w.drew = .ok ((cs.toList.take ((off + len) * e.n)).drop (off * e.n)).toArray w.drew := by
      refine run_first (by rw [hol, hs]) fun j v hj => ?_
      rw [World.cell?_drew]
      by_cases hz0 : off < cap
      · rw [had hz0, hs]; exact hcells j v hj
      · have hl0 : len = 0 := by omega
        have := (List.getElem?_eq_some_iff.1 hj).1
        rw [hol, hl0] at this; omega
    have hr := run_app_grow (ty := ty) ht.h hi hz hfo (e2 ▸ n4 w.drew rfl) (cap := cap - off) (by omega) (by omega) (growslice_fits (by omega) (Nat.le_trans (Nat.mul_le_mul_right _ (by omega)) hb))
    have hge := grownCap_ge w (len + ys.length) (cap - off) et
    have hcm := grownCap_le_maxLen w (len + ys.length) (cap - off) et (by simp only [maxLen]; omega)
    have hobj := heap_alloc_new w.drew (.cells (((cs.toList.take ((off + len) * e.n)).drop (off * e.n)).toArray ++ news.toArray ++ Builtin.zeroCells zz.cells (grownCap w (len + ys.length) (cap - off) et - (len + ys.length))) et)
    refine finish (bk' := .blk w.heap.size (grownCap w (len + ys.length) (cap - off) et)) (w' := w.drew.alloc (.cells (((cs.toList.take ((off + len) * e.n)).drop (off * e.n)).toArray ++ news.toArray ++ Builtin.zeroCells zz.cells (grownCap w (len + ys.length) (cap - off) et - (len + ys.length))) et)) (xs.drop off ++ ys) 0 (.inr ⟨rfl, rfl⟩) ⟨rfl, rfl, rfl, by simp, fun q hq _ => Below.heap_alloc w.drew _ q hq⟩ (fun b cap hb => by cases hb; exact .inr ⟨Nat.le_refl _, by simp⟩) ?_ ⟨_, _, 0, if_pos rfl, by omega, fun _ => by omega, by rw [Nat.sub_zero]⟩ (by rw [ex, e2]; exact hr)
    refine ⟨by simp [h0], (fun hz0 => by cases hz0), _, hobj, ?_, by omega, hcm, fun i' x' hx' => ?_⟩
    · simp only [Array.size_append, List.size_toArray, size_zeroCells, hol, n1, hzz, hs, ← Nat.add_mul]
      congr 1; omega
    · obtain ⟨ds, q1, q2⟩ := arr_append (cs := (cs.toList.take ((off + len) * e.n)).drop (off * e.n) ++ news ++ (Builtin.zeroCells zz.cells (grownCap w (len + ys.length) (cap - off) et - (len + ys.length))).toList) (by rw [hol, List.length_drop, h0]; congr 1; omega) (fun j v hj => by rw [List.getElem?_append_left (List.getElem?_eq_some_iff.1 hj).1]; exact hj) holds n3 i' x' hx'
      refine ⟨ds, q1, fun j v hj => ?_⟩
      have := q2 j v hj
      rw [← Array.getElem?_toList]
      simpa [List.append_assoc] using this
/-- What a queue holds behind an append. -/
theorem que_app {α : Type} {xs ys L : List α} {o off : Nat} (hle : off ≤ xs.length) (h : (o = off ∧ L = xs ++ ys) ∨ (o = 0 ∧ L = xs.drop off ++ ys)) : L.drop o = xs.drop off ++ ys ∧ o ≤ L.length ∧ L.length - o = xs.length - off + ys.length ∧ L.length ≤ xs.length + ys.length := by
  rcases h with ⟨rfl, rfl⟩ | ⟨rfl, rfl⟩
  · refine ⟨List.drop_append_of_le_length hle, by simp; omega, by simp; omega, by simp⟩
  · exact ⟨rfl, Nat.zero_le _, by simp, by simp⟩
end
theorem SSub.q {S : Slots} {M M' : Conts} {S' : Slots} {s t n o o' l l' : Nat} (hl : look S s = some (true, kOsq t n o l)) (ho : o = o') (hn : l = l') (hs : subT [t] (tags M') = true) (r : SSub S M S' M') : SSub S M (⟨s, true, [t], kOsq t n o' l'⟩ :: S') M' :=
  r.conv hl rfl (fun _ _ h => by subst ho; subst hn; exact h) hs
end Go.Fl

/- Contracts on chains that bound. -/
namespace Go.Fl
open Go Go.Proofs

def eStep : Enc StepT := eC (fun v : StepT => (v.1, v.2.1, v.2.2, ())) (eP eI (eP eI (eP eI eU)))
instance {v : StepT} : CellsK (kRd eStep v) [kI (v.1), kI (v.2.1), kI (v.2.2)] := inferInstanceAs (CellsK (kRd (eC (fun v : StepT => (v.1, v.2.1, v.2.2, ())) (eP eI (eP eI (eP eI eU)))) v) _)
instance {v : StepT} {tl : List Know} : EncCells eStep v tl (kI (v.1) :: kI (v.2.1) :: kI (v.2.2) :: tl) := inferInstanceAs (EncCells (eC (fun v : StepT => (v.1, v.2.1, v.2.2, ())) (eP eI (eP eI (eP eI eU)))) v tl _)
instance {v : StepT} : Norm eStep v (kRd eStep v) := ⟨fun h => h⟩
instance {v : StepT} : FieldP eStep v 0 eI (v.1) 0 := inferInstanceAs (FieldP (eC (fun v : StepT => (v.1, v.2.1, v.2.2, ())) (eP eI (eP eI (eP eI eU)))) v 0 _ _ _)
instance {v : StepT} : FieldP eStep v 1 eI (v.2.1) 1 := inferInstanceAs (FieldP (eC (fun v : StepT => (v.1, v.2.1, v.2.2, ())) (eP eI (eP eI (eP eI eU)))) v 1 _ _ _)
instance {v : StepT} : FieldP eStep v 2 eI (v.2.2) 2 := inferInstanceAs (FieldP (eC (fun v : StepT => (v.1, v.2.1, v.2.2, ())) (eP eI (eP eI (eP eI eU)))) v 2 _ _ _)
instance {ks r : List Know} {a b c : Int} [h : RdOf ks (eP eI (eP eI (eP eI eU))) (a, b, c, ()) r] : RdOf ks eStep ((a, b, c)) r := ⟨fun h' => h.imp h'⟩
instance (priority := high) {o : Ori} {i : Int} : RdRow [kI ((o.1.length : Int) + ap o.1 i), kI (ap o.1 i), kI (-1), kI ((o.1.length : Int) + i), kI (ap (invL o.1) i), kI 1, kI (ap o.2 i), kI (ap o.2 i), kI 1, kI i, kI (ap (invL o.2) i), kI (-1)] eStep (stps o i) := inferInstanceAs (RdRow [kI ((o.1.length : Int) + ap o.1 i), kI (ap o.1 i), kI (-1), kI ((o.1.length : Int) + i), kI (ap (invL o.1) i), kI 1, kI (ap o.2 i), kI (ap o.2 i), kI 1, kI i, kI (ap (invL o.2) i), kI (-1)] eStep [(((o.1.length : Int) + ap o.1 i), (ap o.1 i), (-1)), (((o.1.length : Int) + i), (ap (invL o.1) i), 1), ((ap o.2 i), (ap o.2 i), 1), (i, (ap (invL o.2) i), (-1))])
set_option maxRecDepth 100000 in
theorem ct_cloneN (p : List Int) (hn : p.length ≤ 1000000) (h0 : 0 < p.length) : CtN Tryd.prog 45 [kRd (eL eI) p] (fun t => kOsl t p.length) (cArr false 3 eI p p.length) := by
  refine CtN.mk Tryd.func45 rfl Tryd.ntmps45 rfl (fun w J => ?_)
  refine Tr.seq ?_
  refine Tr.rg ?_
  refine TrL.op (ok_assign rfl (fun _ => rfl)) rfl rfl ?_
  refine TrL.fin ?_
  refine End.nxt ?_
  refine Tr.seq ?_
  refine Tr.seq ?_
  refine Tr.rg ?_
  refine TrL.op (ok_move rfl (fun _ => rfl)) rfl rfl ?_
  refine TrL.op (ok_eqlNilJ rfl (fun _ => rfl)) rfl rfl ?_
  refine TrL.fin ?_
  refine End.nxt ?_
  refine Tr.exB (s := 4) rfl (fun b1 q1 => ?_)
  refine Tr.cnd rfl ?_ ?_
  · intro h1
    exact absurd (congrArg List.length (q1 h1)) (by simp only [List.length_nil]; omega)
  · intro h1
    refine Tr.skip ?_
    refine End.nxt ?_
    refine Tr.seq ?_
    refine Tr.rg ?_
    refine TrL.new (ok_bsl0 eI 5) rfl rfl rfl rfl ?_
    refine TrL.op (ok_move rfl (fun _ => rfl)) rfl rfl ?_
    refine TrL.app rfl rfl rfl rfl rfl rfl rfl rfl (by first | omega | (simp only [List.length_cons, List.length_nil]; omega)) (by first | omega | (simp only [List.length_cons, List.length_nil]; omega)) ?_
    refine TrL.norm (S' := [⟨_, _, _, _⟩, ⟨_, _, _, _⟩, ⟨_, _, _, _⟩, ⟨_, _, _, _⟩, ⟨_, _, _, _⟩, ⟨_, _, _, _⟩, ⟨_, _, _, _⟩, ⟨_, _, _, _⟩]) rfl rfl ?_
    refine TrL.op (ok_assign rfl (fun _ => rfl)) rfl rfl ?_
    refine TrL.fin ?_
    refine End.nxt ?_
    refine Tr.ret ?_
    exact Rts.resN (fn := Tryd.f45) (u := 5) rfl rfl (arr_res (by first | rfl | omega | (simp; done) | (simp; omega) | assumption) (by first | rfl | omega | (simp; done) | (simp; omega) | assumption)) (osl_res (by first | rfl | omega | (simp; done) | (simp; omega) | assumption)) inferInstance

set_option maxRecDepth 100000 in
theorem ct_steps (o : Ori) (i : Int) (v : Valid o) (h0 : 0 ≤ i) (h1 : i < o.1.length) : Ct Tryd.prog 73 [kPtr eG (gridOf o), kI i] (kAgg [kI ((o.1.length : Int) + ap o.1 i), kI (ap o.1 i), kI (-1), kI ((o.1.length : Int) + i), kI (ap (invL o.1) i), kI 1, kI (ap o.2 i), kI (ap o.2 i), kI 1, kI i, kI (ap (invL o.2) i), kI (-1)]) := by
  have hv0 := v.pos
  have hv1 := v.len
  have hv2 := v.le
  have hl1 := invL_len o.1
  have hl2 := invL_len o.2
  have hl3 := vertL_len (o := o)
  have hl4 := vtx_le (o := o)
  have a1 := v.ri (i := i.toNat) (by omega)
  have a2 := v.ui (i := i.toNat) (by omega)
  refine Ct.mk Tryd.func73 rfl Tryd.ntmps73 rfl (fun w J => ?_)
  refine Tr.seq ?_
  refine Tr.rg ?_
  refine TrL.new (ok_alloc 4) rfl rfl rfl rfl ?_
  refine TrL.fin ?_
  refine End.nxt ?_
  refine Tr.seq ?_
  refine Tr.draw 58 mixed (by kernel_rfl) ?_
  refine RunD.op (ok_move rfl (fun _ => rfl)) rfl rfl ?_
  refine RunD.op (ok_nilP rfl (fun _ => rfl)) rfl rfl ?_
  refine RunD.op (ok_fldP rfl (fun _ => rfl) rfl) rfl rfl ?_
  refine RunD.op (ok_ldP rfl (fun _ => rfl) rfl) rfl rfl ?_
  refine RunD.op (ok_move rfl (fun _ => rfl)) rfl rfl ?_
  refine RunD.op (ok_nilP rfl (fun _ => rfl)) rfl rfl ?_
  refine RunD.op (ok_fldP rfl (fun _ => rfl) rfl) rfl rfl ?_
  refine RunD.op (ok_ldP rfl (fun _ => rfl) rfl) rfl rfl ?_
  refine RunD.op (ok_move rfl (fun _ => rfl)) rfl rfl ?_
  refine RunD.op (ok_idxP rfl (fun _ => rfl) rfl (fun _ => rfl) rfl (fun _ => by omega)) rfl rfl ?_
  refine RunD.op (ok_ldP rfl (fun _ => rfl) rfl) rfl rfl ?_
  refine RunD.op (ok_add rfl (fun _ => rfl) rfl (fun _ => rfl) (fun _ => by omega)) rfl rfl ?_
  refine RunD.op (ok_move rfl (fun _ => rfl)) rfl rfl ?_
  refine RunD.op (ok_nilP rfl (fun _ => rfl)) rfl rfl ?_
  refine RunD.op (ok_fldP rfl (fun _ => rfl) rfl) rfl rfl ?_
  refine RunD.op (ok_ldP rfl (fun _ => rfl) rfl) rfl rfl ?_
  refine RunD.op (ok_move rfl (fun _ => rfl)) rfl rfl ?_
  refine RunD.op (ok_idxP rfl (fun _ => rfl) rfl (fun _ => rfl) rfl (fun _ => by omega)) rfl rfl ?_
  refine RunD.op (ok_ldP rfl (fun _ => rfl) rfl) rfl rfl ?_
  refine RunD.op (ok_build (fun hp => .cons rfl rfl rfl <| .cons rfl rfl rfl <| .cons rfl rfl rfl <| .nil)) rfl rfl ?_
  refine RunD.op (ok_move rfl (fun _ => rfl)) rfl rfl ?_
  refine RunD.op (ok_nilP rfl (fun _ => rfl)) rfl rfl ?_
  refine RunD.op (ok_fldP rfl (fun _ => rfl) rfl) rfl rfl ?_
  refine RunD.op (ok_ldP rfl (fun _ => rfl) rfl) rfl rfl ?_
  refine RunD.op (ok_move rfl (fun _ => rfl)) rfl rfl ?_
  refine RunD.op (ok_add rfl (fun _ => rfl) rfl (fun _ => rfl) (fun _ => by omega)) rfl rfl ?_
  refine RunD.op (ok_move rfl (fun _ => rfl)) rfl rfl ?_
  refine RunD.op (ok_nilP rfl (fun _ => rfl)) rfl rfl ?_
  refine RunD.op (ok_fldP rfl (fun _ => rfl) rfl) rfl rfl ?_
  refine RunD.op (ok_ldP rfl (fun _ => rfl) rfl) rfl rfl ?_
  refine RunD.op (ok_move rfl (fun _ => rfl)) rfl rfl ?_
  refine RunD.op (ok_idxP rfl (fun _ => rfl) rfl (fun _ => rfl) rfl (fun _ => by omega)) rfl rfl ?_
  refine RunD.op (ok_ldP rfl (fun _ => rfl) rfl) rfl rfl ?_
  refine RunD.op (ok_build (fun hp => .cons rfl rfl rfl <| .cons rfl rfl rfl <| .cons rfl rfl rfl <| .nil)) rfl rfl ?_
  refine RunD.op (ok_move rfl (fun _ => rfl)) rfl rfl ?_
  refine RunD.op (ok_nilP rfl (fun _ => rfl)) rfl rfl ?_
  refine RunD.op (ok_fldP rfl (fun _ => rfl) rfl) rfl rfl ?_
  refine RunD.op (ok_ldP rfl (fun _ => rfl) rfl) rfl rfl ?_
  refine RunD.op (ok_move rfl (fun _ => rfl)) rfl rfl ?_
  refine RunD.op (ok_idxP rfl (fun _ => rfl) rfl (fun _ => rfl) rfl (fun _ => by omega)) rfl rfl ?_
  refine RunD.op (ok_ldP rfl (fun _ => rfl) rfl) rfl rfl ?_
  refine RunD.op (ok_move rfl (fun _ => rfl)) rfl rfl ?_
  refine RunD.op (ok_nilP rfl (fun _ => rfl)) rfl rfl ?_
  refine RunD.op (ok_fldP rfl (fun _ => rfl) rfl) rfl rfl ?_
  refine RunD.op (ok_ldP rfl (fun _ => rfl) rfl) rfl rfl ?_
  refine RunD.op (ok_move rfl (fun _ => rfl)) rfl rfl ?_
  refine RunD.op (ok_idxP rfl (fun _ => rfl) rfl (fun _ => rfl) rfl (fun _ => by omega)) rfl rfl ?_
  refine RunD.op (ok_ldP rfl (fun _ => rfl) rfl) rfl rfl ?_
  refine RunD.op (ok_build (fun hp => .cons rfl rfl rfl <| .cons rfl rfl rfl <| .cons rfl rfl rfl <| .nil)) rfl rfl ?_
  refine RunD.op (ok_move rfl (fun _ => rfl)) rfl rfl ?_
  refine RunD.op (ok_move rfl (fun _ => rfl)) rfl rfl ?_
  refine RunD.op (ok_nilP rfl (fun _ => rfl)) rfl rfl ?_
  refine RunD.op (ok_fldP rfl (fun _ => rfl) rfl) rfl rfl ?_
  refine RunD.op (ok_ldP rfl (fun _ => rfl) rfl) rfl rfl ?_
  refine RunD.op (ok_move rfl (fun _ => rfl)) rfl rfl ?_
  refine RunD.op (ok_idxP rfl (fun _ => rfl) rfl (fun _ => rfl) rfl (fun _ => by omega)) rfl rfl ?_
  refine RunD.op (ok_ldP rfl (fun _ => rfl) rfl) rfl rfl ?_
  refine RunD.op (ok_build (fun hp => .cons rfl rfl rfl <| .cons rfl rfl rfl <| .cons rfl rfl rfl <| .nil)) rfl rfl ?_
  refine RunD.z ?_
  refine TrL.op (ok_buildL [(0, 3), (3, 3), (6, 3), (9, 3)] rfl (fun hp => .cons rfl rfl rfl <| .cons rfl rfl rfl <| .cons rfl rfl rfl <| .cons rfl rfl rfl <| .nil)) rfl rfl ?_
  refine TrL.stB rfl rfl rfl rfl ?_
  refine TrL.fin ?_
  refine End.nxt ?_
  refine Tr.ret ?_
  exact Rts.resC1 (fn := Tryd.f73) rfl rfl (fun g v h => aggK g v h)

set_option maxRecDepth 100000 in
theorem ct_isZero1 (x : Int) : Ct Tryd.prog 74 [kI x] (kB (nz x)) := by
  refine Ct.mk Tryd.func74 rfl Tryd.ntmps74 rfl (fun w J => ?_)
  refine Tr.seq ?_
  refine Tr.rg ?_
  refine TrL.op (ok_assign rfl (fun _ => rfl)) rfl rfl ?_
  refine TrL.fin ?_
  refine End.nxt ?_
  refine Tr.seq ?_
  refine Tr.rg ?_
  refine TrL.op (ok_move rfl (fun _ => rfl)) rfl rfl ?_
  refine TrL.op (ok_neq rfl (fun _ => rfl) rfl (fun _ => rfl)) rfl rfl ?_
  refine TrL.op (ok_assign rfl (fun _ => rfl)) rfl rfl ?_
  refine TrL.fin ?_
  refine End.nxt ?_
  refine Tr.ret ?_
  exact Rts.res1 (fn := Tryd.f74) rfl (.b rfl (by first | rfl | omega | (simp; done) | (simp; omega) | assumption) <| .nil)

set_option maxRecDepth 100000 in
theorem ct_isZero (c : List Int) : Ct Tryd.prog 59 [kRd (eL eI) c] (kB (!c.any nz)) := by
  refine Ct.mk Tryd.func59 rfl Tryd.ntmps59 rfl (fun w J => ?_)
  refine Tr.seq ?_
  refine Tr.rg ?_
  refine TrL.op (ok_assign rfl (fun _ => rfl)) rfl rfl ?_
  refine TrL.fin ?_
  refine End.nxt ?_
  refine Tr.seq ?_
  refine Tr.rg ?_
  refine TrL.op (ok_move rfl (fun _ => rfl)) rfl rfl ?_
  refine TrL.op (ok_call (fun hp => ct_ContainsFunc _ 74 nz (fun x => ct_isZero1 x)) (.a rfl (fun _ => rfl) <| .a rfl (fun _ => rfl) <| .nil)) rfl rfl ?_
  refine TrL.op (ok_not rfl (fun _ => rfl)) rfl rfl ?_
  refine TrL.op (ok_assign rfl (fun _ => rfl)) rfl rfl ?_
  refine TrL.fin ?_
  refine End.nxt ?_
  refine Tr.ret ?_
  exact Rts.res1 (fn := Tryd.f59) rfl (.b rfl (by first | rfl | omega | (simp; done) | (simp; omega) | assumption) <| .nil)

set_option maxRecDepth 100000 in
theorem ct_Bounds1 (x : Int) : Ct Tryd.prog 58 [kI x] (kB true) := by
  refine Ct.mk Tryd.func58 rfl Tryd.ntmps58 rfl (fun w J => ?_)
  refine Tr.seq ?_
  refine Tr.rg ?_
  refine TrL.op (ok_assign rfl (fun _ => rfl)) rfl rfl ?_
  refine TrL.fin ?_
  refine End.nxt ?_
  refine Tr.seq ?_
  refine Tr.rg ?_
  refine TrL.op (ok_assign rfl (fun _ => rfl)) rfl rfl ?_
  refine TrL.fin ?_
  refine End.nxt ?_
  refine Tr.ret ?_
  exact Rts.res1 (fn := Tryd.f58) rfl (.b rfl (by first | rfl | omega | (simp; done) | (simp; omega) | assumption) <| .nil)

set_option maxRecDepth 100000 in
set_option maxHeartbeats 1000000 in
theorem ct_multiples (o : Ori) (c : List Int) (U : Int → Bool) (v : Valid o) (hc : c.length = 2 * o.1.length) : Ct Tryd.prog 57 [kPtr eG (gridOf o), kRd (eL eI) c, kFun Tryd.prog (fun e : Int => 0 ≤ e ∧ e < 2 * o.1.length) (fun e => [kI e]) (fun e => kB (U e))] (kTup [kRd (eL eI) (mulO o c U o.1.length).m, kRd (eL eBool) (mulO o c U o.1.length).us]) := by
  have hv0 := v.pos
  have hv1 := v.len
  have hv2 := v.le
  have hl1 := invL_len o.1
  have hl2 := invL_len o.2
  have hl3 := vertL_len (o := o)
  have hl4 := vtx_le (o := o)
  refine Ct.mk Tryd.func57 rfl Tryd.ntmps57 rfl (fun w J => ?_)
  refine Tr.seq ?_
  refine Tr.rg ?_
  refine TrL.op (ok_assign rfl (fun _ => rfl)) rfl rfl ?_
  refine TrL.op (ok_assign rfl (fun _ => rfl)) rfl rfl ?_
  refine TrL.fin ?_
  refine End.nxt ?_
  refine Tr.seq ?_
  refine Tr.draw 12 mixed (by kernel_rfl) ?_
  refine RunD.op (ok_move rfl (fun _ => rfl)) rfl rfl ?_
  refine RunD.op (ok_nilP rfl (fun _ => rfl)) rfl rfl ?_
  refine RunD.op (ok_fldP rfl (fun _ => rfl) rfl) rfl rfl ?_
  refine RunD.op (ok_ldP rfl (fun _ => rfl) rfl) rfl rfl ?_
  refine RunD.new (ok_makeN eI 17 rfl (fun _ => rfl) rfl (fun _ => rfl) rfl rfl rfl (fun _ => by omega)) rfl rfl rfl rfl ?_
  refine RunD.op (ok_move rfl (fun _ => rfl)) rfl rfl ?_
  refine RunD.op (ok_nilP rfl (fun _ => rfl)) rfl rfl ?_
  refine RunD.op (ok_fldP rfl (fun _ => rfl) rfl) rfl rfl ?_
  refine RunD.op (ok_ldP rfl (fun _ => rfl) rfl) rfl rfl ?_
  refine RunD.op (ok_mul rfl (fun _ => rfl) rfl (fun _ => rfl) (fun _ => by omega)) rfl rfl ?_
  refine RunD.new (ok_make eBool 23 rfl (fun _ => rfl) rfl (fun _ => rfl) rfl rfl (fun _ => by omega)) rfl rfl rfl rfl ?_
  refine RunD.opN (ok_assign rfl (fun _ => rfl)) rfl rfl ?_
  refine RunD.z ?_
  refine TrL.op (ok_assign rfl (fun _ => rfl)) rfl rfl ?_
  refine TrL.fin ?_
  refine End.nxt ?_
  refine Tr.seq ?_
  refine Tr.rg ?_
  refine TrL.op (ok_move rfl (fun _ => rfl)) rfl rfl ?_
  refine TrL.op (ok_nilP rfl (fun _ => rfl)) rfl rfl ?_
  refine TrL.op (ok_fldP rfl (fun _ => rfl) rfl) rfl rfl ?_
  refine TrL.op (ok_ldP rfl (fun _ => rfl) rfl) rfl rfl ?_
  refine TrL.new (ok_makeN eBool 28 rfl (fun _ => rfl) rfl (fun _ => rfl) rfl rfl rfl (fun _ => by omega)) rfl rfl rfl rfl ?_
  refine TrL.op (ok_assign rfl (fun _ => rfl)) rfl rfl ?_
  refine TrL.fin ?_
  refine End.nxt ?_
  refine Tr.seq ?_
  refine Tr.seq ?_
  refine Tr.rg ?_
  refine TrL.op (ok_move rfl (fun _ => rfl)) rfl rfl ?_
  refine TrL.op (ok_nilP rfl (fun _ => rfl)) rfl rfl ?_
  refine TrL.op (ok_fldP rfl (fun _ => rfl) rfl) rfl rfl ?_
  refine TrL.op (ok_ldP rfl (fun _ => rfl) rfl) rfl rfl ?_
  refine TrL.op (ok_move rfl (fun _ => rfl)) rfl rfl ?_
  refine TrL.fin ?_
  refine End.nxt ?_
  refine Tr.for1 (σ := Nat) [⟨0, true, _, _⟩, ⟨1, true, _, _⟩, ⟨2, true, _, _⟩, ⟨6, true, _, _⟩, ⟨7, true, _, _⟩, ⟨8, true, _, _⟩, ⟨32, true, _, _⟩] [] (fun k => [⟨33, true, [], kI (k : Int)⟩]) (fun k => [⟨17, [], cArr false 3 eI (mulO o c U k).m o.1.length⟩, ⟨23, [], cArr false 4 eBool (mulO o c U k).us (2 * o.1.length)⟩, ⟨28, [], cArr false 4 eBool (mulO o c U k).kn o.1.length⟩]) (fun k => k ≤ o.1.length) (fun k => k = o.1.length) (fun k => o.1.length - k) (0) (Nat.zero_le _) (Ent.mk (.i rfl (by first | rfl | omega | (simp; done) | (simp; omega) | assumption) <| .k rfl rfl <| .k rfl rfl <| .k rfl rfl <| .k rfl rfl <| .k rfl rfl <| .k rfl rfl <| .k rfl rfl <| .nil) (.a (by rfl) (by first | rfl | omega | (simp; done) | (simp; omega) | assumption) <| .a (by rw [show ((2 : Int) * o.1.length).toNat = 2 * o.1.length by omega]; rfl) (by omega) <| .a (by rfl) (by first | rfl | omega | (simp; done) | (simp; omega) | assumption) <| .nil) rfl) ?_ ?_
  · intro k hR0
    refine Tr.norm (S' := [⟨33, true, _, _⟩, ⟨0, true, _, _⟩, ⟨1, true, _, _⟩, ⟨2, true, _, _⟩, ⟨6, true, _, _⟩, ⟨7, true, _, _⟩, ⟨8, true, _, _⟩, ⟨32, true, _, _⟩]) (M' := [⟨17, _, _⟩, ⟨23, _, _⟩, ⟨28, _, _⟩]) rfl rfl ?_
    refine Tr.seq ?_
    refine Tr.rg ?_
    refine TrL.op (ok_lss rfl (fun _ => rfl) rfl (fun _ => rfl)) rfl rfl ?_
    refine TrL.fin ?_
    refine End.nxt ?_
    refine Tr.seq ?_
    refine Tr.cnd rfl ?_ ?_
    · intro h4
      replace h4 := of_decide_eq_true h4
      refine Tr.skip ?_
      refine End.nxt ?_
      refine Tr.seq ?_
      refine Tr.blk ?_
      refine Tr.seq ?_
      refine Tr.rg ?_
      refine TrL.op (ok_move rfl (fun _ => rfl)) rfl rfl ?_
      refine TrL.op (ok_assign rfl (fun _ => rfl)) rfl rfl ?_
      refine TrL.fin ?_
      refine End.nxt ?_
      refine Tr.seq ?_
      refine Tr.seq ?_
      refine Tr.rg ?_
      refine TrL.op (ok_move rfl (fun _ => rfl)) rfl rfl ?_
      refine TrL.op (ok_move rfl (fun _ => rfl)) rfl rfl ?_
      first | refine TrL.op (ok_idxEN rfl (fun _ => rfl) rfl (fun _ => rfl) (fun _ => by omega)) rfl rfl ?_ | refine TrL.op (ok_idxE rfl (fun _ => rfl) rfl (fun _ => rfl) (fun _ => by omega)) rfl rfl ?_
      refine TrL.op (ok_ldE rfl (fun _ => rfl) rfl rfl rfl) rfl rfl ?_
      refine TrL.fin ?_
      refine End.nxt ?_
      refine Tr.cnd rfl ?_ ?_
      · intro h6
        try simp only [decide_eq_true_eq, decide_eq_false_iff_not, Bool.and_eq_true, Bool.or_eq_true, Bool.not_eq_true', Bool.not_eq_false', Bool.and_eq_false_imp, Bool.or_eq_false_iff, Int.not_lt, Int.not_le, ne_eq, Classical.not_not, Nat.not_lt, Nat.not_le] at h6
        refine Tr.exit ?_
        refine Exs.thn ?_
        refine Exs.here ?_
        refine End.nxt ?_
        refine Tr.rg ?_
        refine TrL.op (ok_add rfl (fun _ => rfl) rfl (fun _ => rfl) (fun _ => by omega)) rfl rfl ?_
        refine TrL.op (ok_move rfl (fun _ => rfl)) rfl rfl ?_
        refine TrL.fin ?_
        exact End.lp (k + 1) (by first | rfl | omega | (simp; done) | (simp; omega) | assumption) (by omega) (Ent.mk (.i rfl (by first | rfl | omega | (simp; done) | (simp; omega) | assumption) <| .k rfl rfl <| .k rfl rfl <| .k rfl rfl <| .k rfl rfl <| .k rfl rfl <| .k rfl rfl <| .k rfl rfl <| .nil) (.a (by rw [mulO_skip h6]) (by first | rfl | omega | (simp; done) | (simp; omega) | assumption) <| .a (by rw [mulO_skip h6]) (by first | rfl | omega | (simp; done) | (simp; omega) | assumption) <| .a (by rw [mulO_skip h6]) (by first | rfl | omega | (simp; done) | (simp; omega) | assumption) <| .nil) rfl)
      · intro h6
        try simp only [decide_eq_true_eq, decide_eq_false_iff_not, Bool.and_eq_true, Bool.or_eq_true, Bool.not_eq_true', Bool.not_eq_false', Bool.and_eq_false_imp, Bool.or_eq_false_iff, Int.not_lt, Int.not_le, ne_eq, Classical.not_not, Nat.not_lt, Nat.not_le] at h6
        refine Tr.skip ?_
        refine End.nxt ?_
        refine Tr.seq ?_
        refine Tr.rg ?_
        refine TrL.op (ok_move rfl (fun _ => rfl)) rfl rfl ?_
        refine TrL.op (ok_move rfl (fun _ => rfl)) rfl rfl ?_
        first | refine TrL.op (ok_idxEN rfl (fun _ => rfl) rfl (fun _ => rfl) (fun _ => by omega)) rfl rfl ?_ | refine TrL.op (ok_idxE rfl (fun _ => rfl) rfl (fun _ => rfl) (fun _ => by omega)) rfl rfl ?_
        refine TrL.stE rfl rfl rfl rfl rfl ?_
        refine TrL.fin ?_
        refine End.nxt ?_
        refine Tr.seq ?_
        refine Tr.rg ?_
        refine TrL.op (ok_move rfl (fun _ => rfl)) rfl rfl ?_
        refine TrL.new (ok_bslQ eI 44 (fun hp => .cons rfl <| .nil) rfl rfl rfl rfl) rfl rfl rfl rfl ?_
        refine TrL.op (ok_assign rfl (fun _ => rfl)) rfl rfl ?_
        refine TrL.fin ?_
        refine End.nxt ?_
        refine Tr.for1 (σ := BS × List Int × Nat × Nat) [⟨0, true, _, _⟩, ⟨1, true, _, _⟩, ⟨2, true, _, _⟩, ⟨6, true, _, _⟩, ⟨7, true, _, _⟩, ⟨8, true, _, _⟩, ⟨32, true, _, _⟩, ⟨33, true, _, _⟩] [] (fun (s, L, f, u) => [⟨10, true, [44], kOsq 44 1 f (L.length - f)⟩]) (fun (s, L, f, u) => [⟨17, [], cArr false 3 eI s.m o.1.length⟩, ⟨23, [], cArr false 4 eBool s.us (2 * o.1.length)⟩, ⟨28, [], cArr false 4 eBool s.kn o.1.length⟩, ⟨44, [], cArr false 3 eI L (f + (L.length - f))⟩]) (fun (s, L, f, u) => BOk o s ∧ s.q = L.drop f ∧ f ≤ L.length ∧ s.q.length + cntF s ≤ u ∧ mulR o c U u s = mulO o c U (k + 1) ∧ L.length + cntF s ≤ o.1.length) (fun (s, L, f, u) => s = mulO o c U (k + 1)) (fun (s, L, f, u) => u) ((⟨(mulO o c U k).m, (mulO o c U k).us, (mulO o c U k).kn.set k true, [(k : Int)]⟩, [(k : Int)], 0, o.1.length)) ⟨(mulO_start v (by omega) h6).1, rfl, Nat.zero_le _, (mulO_start v (by omega) h6).2, (mulO_go h6).symm, (mulO_start v (by omega) h6).2⟩ (Ent.mk (.q rfl (by first | rfl | omega | (simp; done) | (simp; omega) | assumption) (by first | rfl | omega | (simp; done) | (simp; omega) | assumption) rfl <| .k rfl rfl <| .k rfl rfl <| .k rfl rfl <| .k rfl rfl <| .k rfl rfl <| .k rfl rfl <| .k rfl rfl <| .k rfl rfl <| .nil) (.a (by first | rfl | omega | (simp; done) | (simp; omega) | assumption) (by first | rfl | omega | (simp; done) | (simp; omega) | assumption) <| .a (by first | rfl | omega | (simp; done) | (simp; omega) | assumption) (by first | rfl | omega | (simp; done) | (simp; omega) | assumption) <| .a (by first | rfl | omega | (simp; done) | (simp; omega) | assumption) (by first | rfl | omega | (simp; done) | (simp; omega) | assumption) <| .a (by first | rfl | omega | (simp; done) | (simp; omega) | assumption) (by first | rfl | omega | (simp; done) | (simp; omega) | assumption) <| .nil) rfl) ?_ ?_
        · rintro ⟨s, L, f, u⟩ ⟨hb, hq, hf, hu, hr, hcn⟩
          refine Tr.norm (S' := [⟨10, true, _, _⟩, ⟨0, true, _, _⟩, ⟨1, true, _, _⟩, ⟨2, true, _, _⟩, ⟨6, true, _, _⟩, ⟨7, true, _, _⟩, ⟨8, true, _, _⟩, ⟨32, true, _, _⟩, ⟨33, true, _, _⟩]) (M' := [⟨17, _, _⟩, ⟨23, _, _⟩, ⟨28, _, _⟩, ⟨44, _, _⟩]) rfl rfl ?_
          refine Tr.seq ?_
          refine Tr.seq ?_
          refine Tr.rg ?_
          refine TrL.op (ok_move rfl (fun _ => rfl)) rfl rfl ?_
          refine TrL.op (ok_lenQ rfl (fun _ => rfl)) rfl rfl ?_
          refine TrL.op (ok_gtr rfl (fun _ => rfl) rfl (fun _ => rfl)) rfl rfl ?_
          refine TrL.fin ?_
          refine End.nxt ?_
          refine Tr.cnd rfl ?_ ?_
          · intro h9
            replace h9 := of_decide_eq_true h9
            refine Tr.skip ?_
            refine End.nxt ?_
            refine Tr.seq ?_
            refine Tr.blk ?_
            refine Tr.seq ?_
            refine Tr.rg ?_
            have hfl : f < L.length := by omega
            have hqc : s.q = nth L f :: L.drop (f + 1) := hq.trans (drop_at hfl)
            have hx := (hb.q (nth L f) (by rw [hqc]; simp)).1
            have hx0 := hx.1
            have hx1 := hx.2
            have hN := mulN_ok v (c := c) (U := U) hb hqc
            refine TrL.op (ok_move rfl (fun _ => rfl)) rfl rfl ?_
            refine TrL.op (ok_move rfl (fun _ => rfl)) rfl rfl ?_
            refine TrL.op (ok_idxQ rfl (fun _ => rfl) rfl (fun _ => rfl) (fun _ => by omega)) rfl rfl ?_
            refine TrL.op (ok_ldE rfl (fun _ => rfl) rfl rfl rfl) rfl rfl ?_
            refine TrL.op (ok_call (fun hp => ct_steps _ (nth L f) v hx0 hx1) (.a rfl (fun _ => rfl) <| .a rfl (fun _ => rfl) <| .nil)) rfl rfl ?_
            refine TrL.op (ok_move rfl (fun _ => rfl)) rfl rfl ?_
            refine TrL.fin ?_
            refine End.nxt ?_
            refine Tr.for1 (σ := Nat × List Int × Nat) [⟨0, true, _, _⟩, ⟨1, true, _, _⟩, ⟨2, true, _, _⟩, ⟨6, true, _, _⟩, ⟨7, true, _, _⟩, ⟨8, true, _, _⟩, ⟨32, true, _, _⟩, ⟨33, true, _, _⟩, ⟨54, true, _, _⟩] [] (fun (j, L2, f2) => [⟨55, true, [], kI (j : Int)⟩, ⟨10, true, [44], kOsq 44 1 f2 (L2.length - f2)⟩]) (fun (j, L2, f2) => [⟨17, [], cArr false 3 eI (mulJ o c U (nth L f) j s).m o.1.length⟩, ⟨23, [], cArr false 4 eBool (mulJ o c U (nth L f) j s).us (2 * o.1.length)⟩, ⟨28, [], cArr false 4 eBool (mulJ o c U (nth L f) j s).kn o.1.length⟩, ⟨44, [], cArr false 3 eI L2 (f2 + (L2.length - f2))⟩]) (fun (j, L2, f2) => j ≤ 4 ∧ (mulJ o c U (nth L f) j s).q = L2.drop f2 ∧ f2 < L2.length ∧ nth L2 f2 = nth L f ∧ L2.length + cntF (mulJ o c U (nth L f) j s) ≤ o.1.length) (fun (j, L2, f2) => j = 4 ∧ (mulJ o c U (nth L f) j s).q = L2.drop f2 ∧ f2 < L2.length ∧ L2.length + cntF (mulJ o c U (nth L f) j s) ≤ o.1.length) (fun (j, L2, f2) => 4 - j) ((0, L, f)) ⟨by omega, hq, hfl, rfl, hcn⟩ (Ent.mk (.i rfl (by first | rfl | omega | (simp; done) | (simp; omega) | assumption) <| .q rfl (by first | rfl | omega | (simp; done) | (simp; omega) | assumption) (by first | rfl | omega | (simp; done) | (simp; omega) | assumption) rfl <| .k rfl rfl <| .k rfl rfl <| .k rfl rfl <| .k rfl rfl <| .k rfl rfl <| .k rfl rfl <| .k rfl rfl <| .k rfl rfl <| .k rfl rfl <| .nil) (.a (by first | rfl | omega | (simp; done) | (simp; omega) | assumption) (by first | rfl | omega | (simp; done) | (simp; omega) | assumption) <| .a (by first | rfl | omega | (simp; done) | (simp; omega) | assumption) (by first | rfl | omega | (simp; done) | (simp; omega) | assumption) <| .a (by first | rfl | omega | (simp; done) | (simp; omega) | assumption) (by first | rfl | omega | (simp; done) | (simp; omega) | assumption) <| .a (by first | rfl | omega | (simp; done) | (simp; omega) | assumption) (by first | rfl | omega | (simp; done) | (simp; omega) | assumption) <| .nil) rfl) ?_ ?_
            · rintro ⟨j, L2, f2⟩ ⟨hj, hq2, hf2, hh, hcn2⟩
              refine Tr.norm (S' := [⟨55, true, _, _⟩, ⟨10, true, _, _⟩, ⟨0, true, _, _⟩, ⟨1, true, _, _⟩, ⟨2, true, _, _⟩, ⟨6, true, _, _⟩, ⟨7, true, _, _⟩, ⟨8, true, _, _⟩, ⟨32, true, _, _⟩, ⟨33, true, _, _⟩, ⟨54, true, _, _⟩]) (M' := [⟨17, _, _⟩, ⟨23, _, _⟩, ⟨28, _, _⟩, ⟨44, _, _⟩]) rfl rfl ?_
              refine Tr.seq ?_
              refine Tr.rg ?_
              refine TrL.op (ok_lss rfl (fun _ => rfl) rfl (fun _ => rfl)) rfl rfl ?_
              refine TrL.fin ?_
              refine End.nxt ?_
              refine Tr.seq ?_
              refine Tr.cnd rfl ?_ ?_
              · intro h12
                replace h12 := of_decide_eq_true h12
                refine Tr.skip ?_
                refine End.nxt ?_
                refine Tr.seq ?_
                refine Tr.blk ?_
                refine Tr.seq ?_
                refine Tr.rg ?_
                have hp := nth_mem (xs := stps o (nth L f)) (i := j) (by rw [stps_len]; omega)
                obtain ⟨hp1, hp2, hp3, hp4⟩ := stps_rng v hx hp
                have hp2a := hp2.1
                have hp2b := hp2.2
                have hh0 : nth L2 (f2 + Int.toNat 0) = nth L f := hh
                refine TrL.op (ok_idxAA eStep rfl (fun _ => rfl) rfl (fun _ => rfl) rfl rfl rfl (fun _ => ⟨by omega, by rw [stps_len]; omega⟩)) rfl rfl ?_
                refine TrL.new (ok_alloc 12) rfl rfl rfl rfl ?_
                refine TrL.stB rfl rfl rfl rfl ?_
                refine TrL.fin ?_
                refine End.nxt ?_
                refine Tr.seq ?_
                refine Tr.rg ?_
                refine TrL.op (ok_move rfl (fun _ => rfl)) rfl rfl ?_
                refine TrL.op (ok_fldO rfl (fun _ => rfl)) rfl rfl ?_
                refine TrL.op (ok_ldB rfl (fun _ => rfl) rfl) rfl rfl ?_
                first | refine TrL.op (ok_idxEN rfl (fun _ => rfl) rfl (fun _ => rfl) (fun _ => by omega)) rfl rfl ?_ | refine TrL.op (ok_idxE rfl (fun _ => rfl) rfl (fun _ => rfl) (fun _ => by omega)) rfl rfl ?_
                refine TrL.op (ok_ldE rfl (fun _ => rfl) rfl rfl rfl) rfl rfl ?_
                refine TrL.op (ok_not rfl (fun _ => rfl)) rfl rfl ?_
                refine TrL.op (ok_move rfl (fun _ => rfl)) rfl rfl ?_
                refine TrL.gd rfl rfl rfl (ok_move rfl (fun _ => rfl)) rfl rfl ?_
                refine TrL.gd rfl rfl rfl (ok_fldO rfl (fun _ => rfl)) rfl rfl ?_
                refine TrL.gd rfl rfl rfl (ok_ldB rfl id rfl) rfl rfl ?_
                refine TrL.gd rfl rfl rfl (ok_callF (nth (stps o (nth L f)) j).1 rfl id (fun hp => hp1) (.a rfl id <| .nil)) rfl rfl ?_
                refine TrL.op (ok_and rfl (fun _ => rfl) rfl (fun hp h => gdT2 ((fun _ => rfl) hp) h)) rfl rfl ?_
                refine TrL.fin ?_
                refine End.nxt ?_
                refine Tr.cnd rfl ?_ ?_
                · intro h14
                  try simp only [Bool.and_eq_true, Bool.not_eq_true'] at h14
                  refine Tr.seq ?_
                  refine Tr.drawS 7 28 mixed (by kernel_rfl) ?_
                  refine RunS.opA (ok_move rfl (fun _ => rfl)) (by kernel_rfl) rfl rfl ?_
                  refine RunS.opA (ok_fldO rfl (fun _ => rfl)) (by kernel_rfl) rfl rfl ?_
                  refine RunS.opA (ok_ldB rfl (fun _ => rfl) rfl) (by kernel_rfl) rfl rfl ?_
                  refine RunS.op (ok_move rfl (fun _ => rfl)) rfl rfl ?_
                  refine RunS.op (ok_fldO rfl (fun _ => rfl)) rfl rfl ?_
                  refine RunS.op (ok_ldB rfl (fun _ => rfl) rfl) rfl rfl ?_
                  first | refine RunS.opA (ok_idxEN rfl (fun _ => rfl) rfl (fun _ => rfl) (fun _ => by omega)) (by kernel_rfl) rfl rfl ?_ | refine RunS.opA (ok_idxE rfl (fun _ => rfl) rfl (fun _ => rfl) (fun _ => by omega)) (by kernel_rfl) rfl rfl ?_
                  refine RunS.z (st_E rfl rfl rfl rfl rfl) rfl rfl rfl ?_
                  first | refine TrL.op (ok_idxEN rfl (fun _ => rfl) rfl (fun _ => rfl) (fun _ => by omega)) rfl rfl ?_ | refine TrL.op (ok_idxE rfl (fun _ => rfl) rfl (fun _ => rfl) (fun _ => by omega)) rfl rfl ?_
                  refine TrL.stE rfl rfl rfl rfl rfl ?_
                  refine TrL.fin ?_
                  refine End.nxt ?_
                  refine Tr.seq ?_
                  refine Tr.draw 18 mixed (by kernel_rfl) ?_
                  refine RunD.op (ok_move rfl (fun _ => rfl)) rfl rfl ?_
                  refine RunD.op (ok_fldO rfl (fun _ => rfl)) rfl rfl ?_
                  refine RunD.op (ok_ldB rfl (fun _ => rfl) rfl) rfl rfl ?_
                  refine RunD.op (ok_move rfl (fun _ => rfl)) rfl rfl ?_
                  refine RunD.op (ok_move rfl (fun _ => rfl)) rfl rfl ?_
                  refine RunD.op (ok_idxQ rfl (fun _ => rfl) rfl (fun _ => rfl) (fun _ => by omega)) rfl rfl ?_
                  refine RunD.op (ok_ldE rfl (fun _ => rfl) rfl rfl rfl) rfl rfl ?_
                  first | refine RunD.op (ok_idxEN rfl (fun _ => rfl) rfl (fun _ => rfl) (fun _ => by omega)) rfl rfl ?_ | refine RunD.op (ok_idxE rfl (fun _ => rfl) rfl (fun _ => rfl) (fun _ => by omega)) rfl rfl ?_
                  refine RunD.op (ok_ldE rfl (fun _ => rfl) rfl rfl rfl) rfl rfl ?_
                  refine RunD.op (ok_fldO rfl (fun _ => rfl)) rfl rfl ?_
                  refine RunD.op (ok_ldB rfl (fun _ => rfl) rfl) rfl rfl ?_
                  refine RunD.op (ok_move rfl (fun _ => rfl)) rfl rfl ?_
                  refine RunD.op (ok_fldO rfl (fun _ => rfl)) rfl rfl ?_
                  refine RunD.op (ok_ldB rfl (fun _ => rfl) rfl) rfl rfl ?_
                  first | refine RunD.op (ok_idxN rfl (fun _ => rfl) rfl (fun _ => rfl) rfl (fun _ => by omega)) rfl rfl ?_ | refine RunD.op (ok_idxP rfl (fun _ => rfl) rfl (fun _ => rfl) rfl (fun _ => by omega)) rfl rfl ?_
                  refine RunD.op (ok_ldP rfl (fun _ => rfl) rfl) rfl rfl ?_
                  refine RunD.op (ok_mulW rfl (fun _ => rfl) rfl (fun _ => rfl)) rfl rfl ?_
                  refine RunD.op (ok_addW rfl (fun _ => rfl) rfl (fun _ => rfl)) rfl rfl ?_
                  refine RunD.z ?_
                  first | refine TrL.op (ok_idxEN rfl (fun _ => rfl) rfl (fun _ => rfl) (fun _ => by omega)) rfl rfl ?_ | refine TrL.op (ok_idxE rfl (fun _ => rfl) rfl (fun _ => rfl) (fun _ => by omega)) rfl rfl ?_
                  refine TrL.stE rfl rfl rfl rfl rfl ?_
                  refine TrL.fin ?_
                  refine End.nxt ?_
                  refine Tr.rg ?_
                  refine TrL.op (ok_move rfl (fun _ => rfl)) rfl rfl ?_
                  refine TrL.op (ok_fldO rfl (fun _ => rfl)) rfl rfl ?_
                  refine TrL.op (ok_ldB rfl (fun _ => rfl) rfl) rfl rfl ?_
                  refine TrL.new (ok_bsl eI 100 (fun hp => .cons rfl <| .nil) rfl rfl rfl rfl) rfl rfl rfl rfl ?_
                  refine TrL.appQ rfl rfl rfl rfl (fun _ _ => inferInstance) rfl rfl (by decide) rfl rfl (by first | omega | (simp only [List.length_cons, List.length_nil]; omega)) (by first | omega | (simp only [List.length_cons, List.length_nil]; omega)) (fun L17 o17 hq17 => ?_)
                  refine TrL.norm (S' := ⟨_, _, _, _⟩ :: ⟨_, _, _, _⟩ :: ⟨_, _, _, _⟩ :: ⟨_, _, _, _⟩ :: ⟨_, _, _, _⟩ :: ⟨_, _, _, _⟩ :: ⟨_, _, _, _⟩ :: ⟨_, _, _, _⟩ :: ⟨_, _, _, _⟩ :: ⟨_, _, _, _⟩ :: ⟨_, _, _, _⟩ :: ⟨_, _, _, _⟩ :: ⟨_, _, _, _⟩ :: ⟨_, _, _, _⟩ :: ⟨_, _, _, _⟩ :: ⟨_, _, _, _⟩ :: ⟨_, _, _, _⟩ :: ⟨_, _, _, _⟩ :: ⟨_, _, _, _⟩ :: ⟨_, _, _, _⟩ :: ⟨_, _, _, _⟩ :: ⟨_, _, _, _⟩ :: ⟨_, _, _, _⟩ :: ⟨_, _, _, _⟩ :: ⟨_, _, _, _⟩ :: ⟨_, _, _, _⟩ :: ⟨_, _, _, _⟩ :: ⟨_, _, _, _⟩ :: ⟨_, _, _, _⟩ :: ⟨_, _, _, _⟩ :: ⟨_, _, _, _⟩ :: ⟨_, _, _, _⟩ :: ⟨_, _, _, _⟩ :: ⟨_, _, _, _⟩ :: ⟨_, _, _, _⟩ :: ⟨_, _, _, _⟩ :: ⟨_, _, _, _⟩ :: ⟨_, _, _, _⟩ :: ⟨_, _, _, _⟩ :: ⟨_, _, _, _⟩ :: ⟨_, _, _, _⟩ :: ⟨_, _, _, _⟩ :: ⟨_, _, _, _⟩ :: ⟨_, _, _, _⟩ :: ⟨_, _, _, _⟩ :: ⟨_, _, _, _⟩ :: ⟨_, _, _, _⟩ :: ⟨_, _, _, _⟩ :: ⟨_, _, _, _⟩ :: ⟨_, _, _, _⟩ :: ⟨_, _, _, _⟩ :: ⟨_, _, _, _⟩ :: ⟨_, _, _, _⟩ :: ⟨_, _, _, _⟩ :: ⟨_, _, _, _⟩ :: ⟨_, _, _, _⟩ :: ⟨_, _, _, _⟩ :: ⟨_, _, _, _⟩ :: []) rfl rfl ?_
                  refine TrL.op (ok_assign rfl (fun _ => rfl)) rfl rfl ?_
                  refine TrL.fin ?_
                  refine End.blk ?_
                  refine End.nxt ?_
                  refine Tr.rg ?_
                  refine TrL.op (ok_add rfl (fun _ => rfl) rfl (fun _ => rfl) (fun _ => by omega)) rfl rfl ?_
                  refine TrL.op (ok_move rfl (fun _ => rfl)) rfl rfl ?_
                  refine TrL.fin ?_
                  have ha := que_app (by omega) hq17
                  have hs2 := mulS_pos (c := c) (i := nth L f) h14
                  have hd := que_head ha.1 hf2
                  have hl17 := ha.2.2
                  simp only [List.length_cons, List.length_nil] at hl17
                  have hJ1 := (mulJ_ok v (c := c) (U := U) hx hb (j := j) (by omega)).2.1
                  have hJ2 := (mulJ_ok v (c := c) (U := U) hx hb (j := j + 1) (by omega)).2.1
                  have hq3 : (mulJ o c U (nth L f) (j + 1) s).q = L17.drop o17 := by rw [mulJ_succ (by omega), hs2, ha.1, ← hq2]
                  rw [hq2, List.length_drop] at hJ1
                  rw [hq3, List.length_drop] at hJ2
                  exact End.lp ((j + 1, L17, o17)) ⟨by omega, hq3, hd.2, hd.1.trans hh, by omega⟩ (show 4 - (j + 1) < 4 - j by omega) (Ent.mk (.i rfl (by first | rfl | omega | (simp; done) | (simp; omega) | assumption) <| .q rfl rfl (by omega) rfl <| .k rfl rfl <| .k rfl rfl <| .k rfl rfl <| .k rfl rfl <| .k rfl rfl <| .k rfl rfl <| .k rfl rfl <| .k rfl rfl <| .k rfl rfl <| .nil) (.a (by rw [mulJ_succ (by omega), hs2, ← hh]; rfl) (by first | rfl | omega | (simp; done) | (simp; omega) | assumption) <| .a (by rw [mulJ_succ (by omega), hs2]) (by first | rfl | omega | (simp; done) | (simp; omega) | assumption) <| .a (by rw [mulJ_succ (by omega), hs2]) (by first | rfl | omega | (simp; done) | (simp; omega) | assumption) <| .a (by first | rfl | omega | (simp; done) | (simp; omega) | assumption) (by omega) <| .nil) rfl)
                · intro h14
                  try simp only [Bool.not_eq_true', Bool.and_eq_false_imp] at h14
                  refine Tr.skip ?_
                  refine End.blk ?_
                  refine End.nxt ?_
                  refine Tr.rg ?_
                  refine TrL.op (ok_add rfl (fun _ => rfl) rfl (fun _ => rfl) (fun _ => by omega)) rfl rfl ?_
                  refine TrL.op (ok_move rfl (fun _ => rfl)) rfl rfl ?_
                  refine TrL.fin ?_
                  have hs2 := mulS_neg (c := c) (i := nth L f) (p := (nth (stps o (nth L f)) j)) (s := (mulJ o c U (nth L f) j s)) (U := U) (fun hh2 => absurd (h14 hh2.1) (by rw [hh2.2]; simp))
                  exact End.lp ((j + 1, L2, f2)) ⟨by omega, by (rw [mulJ_succ (by omega), hs2]; exact hq2), hf2, hh, by (rw [mulJ_succ (by omega), hs2]; exact hcn2)⟩ (show 4 - (j + 1) < 4 - j by omega) (Ent.mk (.i rfl (by first | rfl | omega | (simp; done) | (simp; omega) | assumption) <| .q rfl (by first | rfl | omega | (simp; done) | (simp; omega) | assumption) (by first | rfl | omega | (simp; done) | (simp; omega) | assumption) rfl <| .k rfl rfl <| .k rfl rfl <| .k rfl rfl <| .k rfl rfl <| .k rfl rfl <| .k rfl rfl <| .k rfl rfl <| .k rfl rfl <| .k rfl rfl <| .nil) (.a (by rw [mulJ_succ (by omega), hs2]) (by first | rfl | omega | (simp; done) | (simp; omega) | assumption) <| .a (by rw [mulJ_succ (by omega), hs2]) (by first | rfl | omega | (simp; done) | (simp; omega) | assumption) <| .a (by rw [mulJ_succ (by omega), hs2]) (by first | rfl | omega | (simp; done) | (simp; omega) | assumption) <| .a (by first | rfl | omega | (simp; done) | (simp; omega) | assumption) (by first | rfl | omega | (simp; done) | (simp; omega) | assumption) <| .nil) rfl)
              · intro h12
                replace h12 := Int.not_lt.1 (of_decide_eq_false h12)
                refine Tr.exit ?_
                refine Exs.thn ?_
                refine Exs.thn ?_
                refine Exs.here ?_
                exact End.cut ((j, L2, f2)) ⟨by omega, hq2, hf2, hcn2⟩ (Ent.mk (.i rfl (by first | rfl | omega | (simp; done) | (simp; omega) | assumption) <| .q rfl (by first | rfl | omega | (simp; done) | (simp; omega) | assumption) (by first | rfl | omega | (simp; done) | (simp; omega) | assumption) rfl <| .k rfl rfl <| .k rfl rfl <| .k rfl rfl <| .k rfl rfl <| .k rfl rfl <| .k rfl rfl <| .k rfl rfl <| .k rfl rfl <| .k rfl rfl <| .nil) (.a (by first | rfl | omega | (simp; done) | (simp; omega) | assumption) (by first | rfl | omega | (simp; done) | (simp; omega) | assumption) <| .a (by first | rfl | omega | (simp; done) | (simp; omega) | assumption) (by first | rfl | omega | (simp; done) | (simp; omega) | assumption) <| .a (by first | rfl | omega | (simp; done) | (simp; omega) | assumption) (by first | rfl | omega | (simp; done) | (simp; omega) | assumption) <| .a (by first | rfl | omega | (simp; done) | (simp; omega) | assumption) (by first | rfl | omega | (simp; done) | (simp; omega) | assumption) <| .nil) rfl)
            · rintro ⟨j, L2, f2⟩ ⟨rfl, hq2, hf2, hcn2⟩
              refine End.norm (S' := [⟨55, true, _, _⟩, ⟨10, true, _, _⟩, ⟨0, true, _, _⟩, ⟨1, true, _, _⟩, ⟨2, true, _, _⟩, ⟨6, true, _, _⟩, ⟨7, true, _, _⟩, ⟨8, true, _, _⟩, ⟨32, true, _, _⟩, ⟨33, true, _, _⟩, ⟨54, true, _, _⟩]) (M' := [⟨17, _, _⟩, ⟨23, _, _⟩, ⟨28, _, _⟩, ⟨44, _, _⟩]) rfl rfl ?_
              refine End.blk ?_
              refine End.nxt ?_
              refine Tr.rg ?_
              refine TrL.op (ok_move rfl (fun _ => rfl)) rfl rfl ?_
              refine TrL.op (ok_slQ rfl (fun _ => rfl) rfl (fun _ => rfl) (fun _ => by omega)) rfl rfl ?_
              refine TrL.op (ok_assign rfl (fun _ => rfl)) rfl rfl ?_
              refine TrL.fin ?_
              exact End.lp ((mulN o c U (nth L f) s, L2, f2 + 1, u - 1)) ⟨hN.1, by (show (mulJ o c U (nth L f) 4 s).q.tail = _; rw [hq2, List.tail_drop]), by omega, by (have := hN.2.1; omega), (mulR_next hqc (by (have := hN.2.1; omega))).symm.trans hr, hcn2⟩ (show u - 1 < u by (have := hN.2.1; omega)) (Ent.mk (.q rfl (by first | rfl | omega | (simp; done) | (simp; omega) | assumption) (by first | rfl | omega | (simp; done) | (simp; omega) | assumption) rfl <| .k rfl rfl <| .k rfl rfl <| .k rfl rfl <| .k rfl rfl <| .k rfl rfl <| .k rfl rfl <| .k rfl rfl <| .k rfl rfl <| .nil) (.a (by first | rfl | omega | (simp; done) | (simp; omega) | assumption) (by first | rfl | omega | (simp; done) | (simp; omega) | assumption) <| .a (by first | rfl | omega | (simp; done) | (simp; omega) | assumption) (by first | rfl | omega | (simp; done) | (simp; omega) | assumption) <| .a (by first | rfl | omega | (simp; done) | (simp; omega) | assumption) (by first | rfl | omega | (simp; done) | (simp; omega) | assumption) <| .a (by first | rfl | omega | (simp; done) | (simp; omega) | assumption) (by first | rfl | omega | (simp; done) | (simp; omega) | assumption) <| .nil) rfl)
          · intro h9
            replace h9 := Int.not_lt.1 (of_decide_eq_false h9)
            refine Tr.exit ?_
            refine Exs.thn ?_
            refine Exs.thn ?_
            refine Exs.here ?_
            exact End.cut ((s, L, f, u)) ((mulR_nil (by rw [hq]; exact List.drop_eq_nil_of_le (by omega))).symm.trans hr) (Ent.mk (.q rfl (by first | rfl | omega | (simp; done) | (simp; omega) | assumption) (by first | rfl | omega | (simp; done) | (simp; omega) | assumption) rfl <| .k rfl rfl <| .k rfl rfl <| .k rfl rfl <| .k rfl rfl <| .k rfl rfl <| .k rfl rfl <| .k rfl rfl <| .k rfl rfl <| .nil) (.a (by first | rfl | omega | (simp; done) | (simp; omega) | assumption) (by first | rfl | omega | (simp; done) | (simp; omega) | assumption) <| .a (by first | rfl | omega | (simp; done) | (simp; omega) | assumption) (by first | rfl | omega | (simp; done) | (simp; omega) | assumption) <| .a (by first | rfl | omega | (simp; done) | (simp; omega) | assumption) (by first | rfl | omega | (simp; done) | (simp; omega) | assumption) <| .a (by first | rfl | omega | (simp; done) | (simp; omega) | assumption) (by first | rfl | omega | (simp; done) | (simp; omega) | assumption) <| .nil) rfl)
        · rintro ⟨s, L, f, u⟩ hE1
          refine End.norm (S' := [⟨10, true, _, _⟩, ⟨0, true, _, _⟩, ⟨1, true, _, _⟩, ⟨2, true, _, _⟩, ⟨6, true, _, _⟩, ⟨7, true, _, _⟩, ⟨8, true, _, _⟩, ⟨32, true, _, _⟩, ⟨33, true, _, _⟩]) (M' := [⟨17, _, _⟩, ⟨23, _, _⟩, ⟨28, _, _⟩, ⟨44, _, _⟩]) rfl rfl ?_
          refine End.blk ?_
          refine End.nxt ?_
          refine Tr.rg ?_
          refine TrL.op (ok_add rfl (fun _ => rfl) rfl (fun _ => rfl) (fun _ => by omega)) rfl rfl ?_
          refine TrL.op (ok_move rfl (fun _ => rfl)) rfl rfl ?_
          refine TrL.fin ?_
          exact End.lp (k + 1) (by first | rfl | omega | (simp; done) | (simp; omega) | assumption) (by omega) (Ent.mk (.i rfl (by first | rfl | omega | (simp; done) | (simp; omega) | assumption) <| .k rfl rfl <| .k rfl rfl <| .k rfl rfl <| .k rfl rfl <| .k rfl rfl <| .k rfl rfl <| .k rfl rfl <| .nil) (.a (by rw [hE1]) (by first | rfl | omega | (simp; done) | (simp; omega) | assumption) <| .a (by rw [hE1]) (by first | rfl | omega | (simp; done) | (simp; omega) | assumption) <| .a (by rw [hE1]) (by first | rfl | omega | (simp; done) | (simp; omega) | assumption) <| .nil) rfl)
    · intro h4
      replace h4 := Int.not_lt.1 (of_decide_eq_false h4)
      refine Tr.exit ?_
      refine Exs.thn ?_
      refine Exs.thn ?_
      refine Exs.here ?_
      exact End.cut (k) (by omega) (Ent.mk (.i rfl (by first | rfl | omega | (simp; done) | (simp; omega) | assumption) <| .k rfl rfl <| .k rfl rfl <| .k rfl rfl <| .k rfl rfl <| .k rfl rfl <| .k rfl rfl <| .k rfl rfl <| .nil) (.a (by first | rfl | omega | (simp; done) | (simp; omega) | assumption) (by first | rfl | omega | (simp; done) | (simp; omega) | assumption) <| .a (by first | rfl | omega | (simp; done) | (simp; omega) | assumption) (by first | rfl | omega | (simp; done) | (simp; omega) | assumption) <| .a (by first | rfl | omega | (simp; done) | (simp; omega) | assumption) (by first | rfl | omega | (simp; done) | (simp; omega) | assumption) <| .nil) rfl)
  · rintro _ rfl
    refine End.norm (S' := [⟨33, true, _, _⟩, ⟨0, true, _, _⟩, ⟨1, true, _, _⟩, ⟨2, true, _, _⟩, ⟨6, true, _, _⟩, ⟨7, true, _, _⟩, ⟨8, true, _, _⟩, ⟨32, true, _, _⟩]) (M' := [⟨17, _, _⟩, ⟨23, _, _⟩, ⟨28, _, _⟩]) rfl rfl ?_
    refine End.nxt ?_
    refine Tr.seq ?_
    refine Tr.rg ?_
    refine TrL.op (ok_move rfl (fun _ => rfl)) rfl rfl ?_
    refine TrL.op (ok_move rfl (fun _ => rfl)) rfl rfl ?_
    refine TrL.op (ok_assign rfl (fun _ => rfl)) rfl rfl ?_
    refine TrL.op (ok_assign rfl (fun _ => rfl)) rfl rfl ?_
    refine TrL.fin ?_
    refine End.nxt ?_
    refine Tr.frz 17 [6] ⟨rfl, trivial⟩ (by simp only [lenMax]; omega) rfl ?_
    refine Tr.frz 23 [7] ⟨rfl, trivial⟩ (by simp only [lenMax]; omega) rfl ?_
    refine Tr.ret ?_
    exact Rts.res (fn := Tryd.f57) (ts := [6, 7]) rfl rfl (.r rfl (by first | rfl | omega | (simp; done) | (simp; omega) | assumption) <| .r rfl (by first | rfl | omega | (simp; done) | (simp; omega) | assumption) <| .nil)

end Go.Fl

/- Sums of boundaries of squares; a chain less such a sum; the other search, side by side. Plain Lean. -/
namespace Go.Fl
open Go Go.RowKit
section
variable {o : Ori} (v : Valid o)
include v
theorem sum_potE {X : List Int} {j : Nat} (hj : j < 2 * o.1.length) : sumTo (fun i => nth X i * sqI o i j) o.1.length = potE o (fun x => nth X x.toNat) j := by
  unfold potE
  by_cases h : j < o.1.length
  · rw [if_pos h]
    have hs : Sq o.1.length (j : Int) := Sq.nat h
    refine Eq.trans (b := S o.1.length (fun x => if x = (j : Int) then nth X x.toNat else 0) - S o.1.length (fun x => if (j : Int) = ap o.2 x then nth X x.toNat else 0)) ?_ (by rw [S_one hs, S_delta v.pU hs])
    rw [← S_sub]
    refine sumTo_congr fun i hi => ?_
    have hr := (v.pR.aps (Sq.nat hi)).1
    unfold sqI
    rw [if_neg (show ¬ (j : Int) = o.1.length + nth o.1 (i : Int).toNat by have : nth o.1 (i : Int).toNat = ap o.1 i := rfl; omega), if_neg (show ¬ (j : Int) = o.1.length + i by omega)]
    simp only [ap, Int.toNat_natCast]
    by_cases e1 : (j : Int) = i
    · rw [if_pos e1, if_pos (show (i : Int) = j from e1.symm)]; split <;> grind
    · rw [if_neg e1, if_neg (show ¬ (i : Int) = j from fun e => e1 e.symm)]; split <;> grind
  · rw [if_neg h]
    have hs : Sq o.1.length ((j : Int) - o.1.length) := ⟨by omega, by omega⟩
    refine Eq.trans (b := S o.1.length (fun x => if (j : Int) - o.1.length = ap o.1 x then nth X x.toNat else 0) - S o.1.length (fun x => if x = (j : Int) - o.1.length then nth X x.toNat else 0)) ?_ (by rw [S_one hs, S_delta v.pR hs])
    rw [← S_sub]
    refine sumTo_congr fun i hi => ?_
    have hu := (v.pU.aps (Sq.nat hi)).2
    unfold sqI
    rw [if_neg (show ¬ (j : Int) = i by omega), if_neg (show ¬ (j : Int) = nth o.2 (i : Int).toNat by have : nth o.2 (i : Int).toNat = ap o.2 i := rfl; omega)]
    simp only [ap, Int.toNat_natCast]
    have c1 : ((j : Int) = o.1.length + nth o.1 i) = ((j : Int) - o.1.length = nth o.1 i) := propext ⟨fun h => by omega, fun h => by omega⟩
    have c2 : ((j : Int) = o.1.length + (i : Int)) = ((i : Int) = (j : Int) - o.1.length) := propext ⟨fun h => by omega, fun h => by omega⟩
    simp only [c1, c2]
    split <;> split <;> grind
end
/-- A chain less the boundaries of the first k squares, each times its multiple. -/
def woT (o : Ori) (c m : List Int) (k : Nat) : List Int := tab (2 * o.1.length) (fun j => W (nth c j - sumTo (fun i => nth m i * sqI o i j) k))
theorem woT_zero {o : Ori} {c m : List Int} (hc : c.length = 2 * o.1.length) (hr : ∀ i, -1000000 ≤ nth c i ∧ nth c i ≤ 1000000) : c = woT o c m 0 := by
  refine ext_nth (by rw [woT, tab_len, hc]) fun i hi => ?_
  rw [woT, nth_tab (by omega)]
  have := hr i
  rw [show sumTo (fun q => nth m q * sqI o q i) 0 = 0 from rfl, Int.sub_zero, W_in (by omega) (by omega)]
theorem woT_succ {o : Ori} (v : Valid o) {c m : List Int} {k : Nat} (hk : k < o.1.length) {E1 E2 E3 E4 : List Int} {a b d e : Int} (h1 : E1 = (woT o c m k).set k a) (ha : a = W (nth (woT o c m k) k - nth m k))
    (h2 : E2 = E1.set ((o.1.length : Int) + nth o.1 k).toNat b) (hb : b = W (nth E1 ((o.1.length : Int) + nth o.1 k).toNat - nth m k)) (h3 : E3 = E2.set (nth o.2 k).toNat d) (hd : d = W (nth E2 (nth o.2 k).toNat + nth m k))
    (h4 : E4 = E3.set ((o.1.length : Int) + k).toNat e) (he : e = W (nth E3 ((o.1.length : Int) + k).toNat + nth m k)) : E4 = woT o c m (k + 1) := by
  have hr := v.ri (i := k) hk
  have hu := v.ui (i := k) hk
  unfold woT at h1 ha
  have t1 : E1 = _ := h1.trans ((congrArg (fun x : Nat => (tab (2 * o.1.length) _).set x a) (Int.toNat_natCast k).symm).trans ((congrArg _ ha).trans (tab_sub (n := 2 * o.1.length) (i := (k : Int)) (y := nth m k) (by omega) (by omega) (by rw [Int.toNat_natCast]))))
  rw [t1] at h2 hb
  have t2 : E2 = _ := h2.trans ((congrArg _ hb).trans (tab_sub (n := 2 * o.1.length) (i := (o.1.length : Int) + nth o.1 k) (y := nth m k) (by omega) (by omega) rfl))
  rw [t2] at h3 hd
  have t3 : E3 = _ := h3.trans ((congrArg _ hd).trans (tab_add (n := 2 * o.1.length) (i := nth o.2 k) (y := nth m k) (by omega) (by omega) rfl))
  rw [t3] at h4 he
  have t4 : E4 = _ := h4.trans ((congrArg _ he).trans (tab_add (n := 2 * o.1.length) (i := (o.1.length : Int) + k) (y := nth m k) (by omega) (by omega) rfl))
  rw [t4, woT]
  refine tab_congr fun j hj => ?_
  congr 1
  rw [sumTo_succ]
  unfold sqI
  simp only [Int.toNat_natCast]
  split <;> split <;> split <;> split <;> grind
theorem woT_any {o : Ori} (v : Valid o) {c m : List Int} (hc : c.length = 2 * o.1.length) (hr : ∀ i, -1000000 ≤ nth c i ∧ nth c i ≤ 1000000) : (!(woT o c m o.1.length).any nz) = decide (potL o m = c) := by
  have key : ∀ j, j < 2 * o.1.length → (nth (woT o c m o.1.length) j = 0 ↔ nth (potL o m) j = nth c j) := fun j hj => by
    rw [woT, nth_tab hj, potL, nth_tab hj, sum_potE v hj]
    have h1 := hr j
    have h2 : W (nth c j) = nth c j := W_in (by omega) (by omega)
    constructor
    · intro h
      rw [← h2]
      obtain ⟨p, hp⟩ := W_spec (nth c j - potE o (fun x => nth m x.toNat) j)
      rw [h] at hp
      exact W_congr ⟨p, by omega⟩
    · intro h
      have : W (nth c j - potE o (fun x => nth m x.toNat) j) = W (nth c j - W (potE o (fun x => nth m x.toNat) j)) := (W_sub_r _ _).symm
      rw [this, h, Int.sub_self]; rfl
  rw [Bool.eq_iff_iff]
  simp only [Bool.not_eq_true', decide_eq_true_eq]
  rw [any_false_iff]
  constructor
  · intro h
    refine ext_nth (by rw [potL, tab_len, hc]) fun j hj => ?_
    rw [potL, tab_len] at hj
    refine (key j hj).1 ?_
    have := h j (by rw [woT, tab_len]; exact hj)
    simpa [nz] using this
  · intro h j hj
    rw [woT, tab_len] at hj
    have := (key j hj).2 (by rw [h])
    rw [this]; rfl
/-- The sum over the first i squares; over one square more on the first k edges. -/
def suT (o : Ori) (x : List Int) (i k : Nat) : List Int := tab (2 * o.1.length) (fun j => W (sumTo (fun q => nth x q * sqI o q j) (if j < k then i + 1 else i)))
theorem suT_zero {o : Ori} {x : List Int} : List.replicate (2 * o.1.length) 0 = suT o x 0 0 := by
  unfold suT
  rw [tab_rep]
  exact tab_congr fun j _ => by rw [if_neg (by omega)]; rfl
theorem suT_row {o : Ori} {x : List Int} {i : Nat} : suT o x i (2 * o.1.length) = suT o x (i + 1) 0 := by
  unfold suT
  exact tab_congr fun j hj => by rw [if_pos hj, if_neg (by omega)]
theorem suT_set {o : Ori} {x : List Int} {i k : Nat} (hk : k < 2 * o.1.length) {a : Int} (ha : a = W (nth (suT o x i k) k + W (nth x i * nth (sqL o i) k))) : (suT o x i k).set k a = suT o x i (k + 1) := by
  unfold suT at ha ⊢
  rw [nth_tab hk, if_neg (by omega), sqL, nth_tab hk, W_add_l, W_add_r] at ha
  rw [tab_set]
  refine tab_congr fun j hj => ?_
  by_cases e : j = k
  · subst e
    rw [if_pos rfl, if_pos (by omega), ha, sumTo_succ]
    obtain ⟨p, hp⟩ := W_spec (sqI o i j)
    rw [hp]
    exact W_congr ⟨nth x i * p, by grind⟩
  · rw [if_neg e]
    by_cases h : j < k
    · rw [if_pos h, if_pos (by omega)]
    · rw [if_neg h, if_neg (by omega)]
theorem suT_all {o : Ori} (v : Valid o) {x : List Int} : suT o x o.1.length 0 = potL o x := by
  unfold suT potL
  exact tab_congr fun j hj => by rw [if_neg (by omega), sum_potE v hj]

/-! ### What both searches answer -/
def bdX (o : Ori) (c : List Int) : List Int := (mulO o c (fun _ => true) o.1.length).m
def bdB (o : Ori) (c : List Int) : Bool := decide (potL o (bdX o c) = c)
theorem bd_of {o : Ori} (v : Valid o) {c X : List Int} (hc : c.length = 2 * o.1.length) (h : KAll o c X) : decide (potL o X = c) = bdB o c ∧ (bdB o c = true → X = bdX o c) := by
  have := KAll.pot hc (mulO_all v (c := c)) h
  refine ⟨?_, fun e => (this.2 (of_decide_eq_true e)).symm⟩
  unfold bdB bdX
  rw [decide_eq_decide]
  exact this.1.symm
/-- The neighbour below or to the left, and by how much its multiple is more. -/
def oth (o : Ori) (k s : Nat) : Int := if s = 1 then nth (invL o.1) k else nth (invL o.2) k
def odd (o : Ori) (c : List Int) (k s : Nat) : Int := if s = 1 then nth c ((o.1.length : Int) + k).toNat else -nth c k
section
variable {o : Ori} (v : Valid o)
include v
theorem oth_sq {k s : Nat} (hk : k < o.1.length) : Sq o.1.length (oth o k s) := by
  unfold oth
  split
  · exact invR v hk
  · exact invU v hk
theorem oth_conn {k s : Nat} (hk : k < o.1.length) : Conn o k (oth o k s) := by
  unfold oth
  have h1 := Conn.l v (Sq.nat hk)
  have h2 := Conn.d v (Sq.nat hk)
  unfold ap at h1 h2
  rw [Int.toNat_natCast] at h1 h2
  split
  · exact h1
  · exact h2
end
theorem oth_pot {o : Ori} {c : List Int} {k s : Nat} (hk : k < o.1.length) {y : Int → Int} (hy : PotW o c y) : W (y (oth o k s) - y k) = W (odd o c k s) := by
  unfold oth odd
  have h1 := hy.v _ (Sq.nat hk)
  have h2 := hy.h _ (Sq.nat hk)
  unfold ap at h1 h2
  rw [Int.toNat_natCast] at h1 h2
  split
  · rw [← h1, W_W]
  · rw [← h2]
    obtain ⟨p, hp⟩ := W_spec (y k - y (nth (invL o.2) k))
    exact W_congr ⟨p, by omega⟩
section
variable {o : Ori} (v : Valid o)
include v
end
/-- What holds within the second search. -/
structure RInv (o : Ori) (c : List Int) (i : Nat) (K : List Bool) (X : List Int) : Prop where
  kl : K.length = o.1.length
  xl : X.length = o.1.length
  kx : KX o c K X
  lo : ∀ j, j < i → nth K j = true
/-- A pass: either something has become known, or all that was looked at is closed. -/
structure RPas (o : Ori) (K0 : List Bool) (ag : Bool) (K : List Bool) (k s : Nat) : Prop where
  y : ag = true → K.count false < K0.count false
  n : ag = false → K = K0 ∧ (∀ x, x < k → nth K (oth o x 0).toNat = nth K x ∧ nth K (oth o x 1).toNat = nth K x) ∧ ∀ t, t < s → nth K (oth o k t).toNat = nth K k
  le : K.count false ≤ K0.count false
section
variable {o : Ori} (v : Valid o)
include v
theorem RInv.out {c : List Int} {i k s : Nat} {K : List Bool} {X : List Int} (h : RInv o c i K X) (hk : k < o.1.length) (h1 : nth K k = true) (h2 : nth K (oth o k s).toNat = false) {a : Int} (ha : a = W (nth X k + odd o c k s)) : RInv o c i (K.set (oth o k s).toNat true) (X.set (oth o k s).toNat a) := by
  have hs := oth_sq v (s := s) hk
  refine ⟨by simpa using h.kl, by simpa using h.xl, ?_, fun j hj => nth_mono (h.lo j hj)⟩
  have := h.kx.step h.kl h.xl (Sq.nat hk) hs (by simpa using h1) h2 (oth_conn v hk) (a := odd o c k s) (fun y hy => oth_pot hk hy)
  rw [Int.toNat_natCast] at this
  rwa [ha]
theorem RInv.inn {c : List Int} {i k s : Nat} {K : List Bool} {X : List Int} (h : RInv o c i K X) (hk : k < o.1.length) (h1 : nth K k = false) (h2 : nth K (oth o k s).toNat = true) {a : Int} (ha : a = W (nth X (oth o k s).toNat - odd o c k s)) : RInv o c i (K.set k true) (X.set k a) := by
  have hs := oth_sq v (s := s) hk
  refine ⟨by simpa using h.kl, by simpa using h.xl, ?_, fun j hj => nth_mono (h.lo j hj)⟩
  have := h.kx.step h.kl h.xl hs (Sq.nat hk) h2 (by simpa using h1) (oth_conn v hk).symm (a := -odd o c k s) (fun y hy => by
    have := oth_pot (s := s) hk hy
    obtain ⟨p, hp⟩ := W_spec (y (oth o k s) - y k); obtain ⟨q, hq⟩ := W_spec (odd o c k s)
    exact W_congr ⟨p - q, by omega⟩)
  rw [Int.toNat_natCast] at this
  rwa [ha]
theorem RPas.out {K0 K : List Bool} {ag : Bool} {k s i : Nat} {c X : List Int} (hr : RInv o c i K X) (h : RPas o K0 ag K k s) (hk : k < o.1.length) (h2 : nth K (oth o k s).toNat = false) : RPas o K0 true (K.set (oth o k s).toNat true) k (s + 1) := by
  have hs := oth_sq v (s := s) hk
  have h0 := hs.1; have h1 := hs.2
  have := count_set (by rw [hr.kl]; omega) h2
  have := h.le
  exact ⟨fun _ => by omega, fun e => (by cases e), by omega⟩
end
theorem RPas.inn {o : Ori} {K0 K : List Bool} {ag : Bool} {k s i : Nat} {c X : List Int} (hr : RInv o c i K X) (h : RPas o K0 ag K k s) (hk : k < o.1.length) (h2 : nth K k = false) : RPas o K0 true (K.set k true) k (s + 1) := by
  have := count_set (K := K) (i := k) (by rw [hr.kl]; exact hk) h2
  have := h.le
  exact ⟨fun _ => by omega, fun e => (by cases e), by omega⟩
section
variable {o : Ori} (v : Valid o)
include v
end
theorem RPas.stay {o : Ori} {K0 K : List Bool} {ag : Bool} {k s : Nat} (h : RPas o K0 ag K k s) (he : nth K (oth o k s).toNat = nth K k) : RPas o K0 ag K k (s + 1) :=
  ⟨h.y, fun e => ⟨(h.n e).1, (h.n e).2.1, all_succ (h.n e).2.2 he⟩, h.le⟩
section
variable {o : Ori} (v : Valid o)
include v
end
theorem RPas.row {o : Ori} {K0 K : List Bool} {ag : Bool} {k : Nat} (h : RPas o K0 ag K k 2) : RPas o K0 ag K (k + 1) 0 :=
  ⟨h.y, fun e => ⟨(h.n e).1, all_succ (h.n e).2.1 ⟨(h.n e).2.2 0 (by omega), (h.n e).2.2 1 (by omega)⟩, fun t ht => absurd ht (by omega)⟩, h.le⟩
section
variable {o : Ori} (v : Valid o)
include v
theorem RPas.closed {K0 K : List Bool} (h : RPas o K0 false K o.1.length 0) : Closed o K := fun x hx => by
  have hr := v.pR.aps hx; have hu := v.pU.aps hx
  have h1 := ((h.n rfl).2.1 (ap o.1 x).toNat (by have := hr.1; have := hr.2; omega)).2
  have h2 := ((h.n rfl).2.1 (ap o.2 x).toNat (by have := hu.1; have := hu.2; omega)).1
  have e1 : oth o (ap o.1 x).toNat 1 = x := v.pR.inv_ap hx
  have e2 : oth o (ap o.2 x).toNat 0 = x := v.pU.inv_ap hx
  rw [e1] at h1
  rw [e2] at h2
  exact ⟨h1.symm, h2.symm⟩
end
theorem RInv.start {o : Ori} {c : List Int} {i : Nat} {K : List Bool} {X : List Int} (h : RInv o c i K X) (hc : Closed o K) (hi : i < o.1.length) (hn : nth K i = false) : RInv o c (i + 1) (K.set i true) X := by
  have sk : Sq o.1.length (i : Int) := Sq.nat hi
  have hr : Root o i := hc.root (by simpa using hn) fun j sj hj => h.lo j.toNat (by have := sj.1; omega)
  have := h.kx.root h.kl sk (by simpa using hn) hr
  rw [Int.toNat_natCast] at this
  exact ⟨by simpa using h.kl, h.xl, this, all_succ (fun j hj => nth_mono (h.lo j hj)) (by rw [nth_set (by rw [h.kl]; exact hi), if_pos rfl])⟩
section
variable {o : Ori} (v : Valid o)
include v
end
theorem RInv.all {o : Ori} {c : List Int} {K : List Bool} {X : List Int} (h : RInv o c o.1.length K X) : KAll o c X :=
  ⟨h.xl, fun x hx => (h.kx x hx).1 (h.lo _ (by have := hx.1; have := hx.2; omega))⟩
section
variable {o : Ori} (v : Valid o)
include v
end
theorem RInv.zero {o : Ori} {c : List Int} : RInv o c 0 (List.replicate o.1.length false) (List.replicate o.1.length 0) :=
  ⟨by simp, by simp, fun x hx => by
    have h1 := hx.1; have h2 := hx.2
    rw [nth_rep (by omega), nth_rep (by omega)]
    exact ⟨fun h => (by cases h), fun _ => rfl⟩, fun j hj => absurd hj (by omega)⟩
theorem Closed.zero {o : Ori} (v : Valid o) : Closed o (List.replicate o.1.length false) := fun x hx => by
  have h1 := hx.1; have h2 := hx.2
  have hr := v.pR.aps hx; have hu := v.pU.aps hx
  have h3 := hr.1; have h4 := hr.2; have h5 := hu.1; have h6 := hu.2
  rw [nth_rep (by omega), nth_rep (by omega), nth_rep (by omega)]
  exact ⟨rfl, rfl⟩
theorem RPas.zero {o : Ori} {K : List Bool} : RPas o K false K 0 0 := ⟨fun e => (by cases e), fun _ => ⟨rfl, fun x hx => absurd hx (by omega), fun t ht => absurd ht (by omega)⟩, Nat.le_refl _⟩
theorem RPas.mu {o : Ori} {K0 K : List Bool} {ag : Bool} {k s : Nat} (h : RPas o K0 ag K k s) : 2 * K.count false + (if ag = true then 1 else 0) < 2 * K0.count false + 1 := by
  cases ag with
  | true => have := h.y rfl; rw [if_pos rfl]; omega
  | false => have := h.le; rw [if_neg (by simp)]; omega
/-- If there is a potential at all, the search finds one. -/
theorem KAll.of_pot {o : Ori} (v : Valid o) {c X : List Int} (h : KAll o c X) {y : Int → Int} (hy : PotW o c y) : PotW o c (fun x => nth X x.toNat) := by
  have key : ∀ a b, Sq o.1.length a → Sq o.1.length b → Conn o a b → W (nth X a.toNat - nth X b.toNat) = W (y a - y b) := fun a b ha hb hc => by
    obtain ⟨i, s1, r1, c1, e1⟩ := h.2 a ha
    obtain ⟨j, s2, r2, c2, e2⟩ := h.2 b hb
    obtain rfl := r1.uniq r2 s1 s2 ((c1.trans hc).trans c2.symm)
    rw [e1 y hy, e2 y hy, W_sub_l, W_sub_r]
    congr 1; omega
  exact ⟨fun x hx => (key _ _ hx (v.pU.inv.aps hx) (Conn.d v hx)).trans (hy.h x hx), fun x hx => (key _ _ (v.pR.inv.aps hx) hx (Conn.l v hx).symm).trans (hy.v x hx)⟩
theorem bdB_of {o : Ori} (v : Valid o) {c : List Int} (hc : c.length = 2 * o.1.length) {y : Int → Int} (hy : PotW o c y) : bdB o c = true :=
  decide_eq_true ((potL_iff hc).2 ((mulO_all v).of_pot v hy))
theorem bdB_sq {o : Ori} (v : Valid o) {q : Int} (hq : Sq o.1.length q) : bdB o (sqL o q) = true := by
  refine bdB_of v tab_len (y := fun x => if x = q then 1 else 0) ⟨fun x hx => ?_, fun x hx => ?_⟩
  · refine Eq.trans ?_ (sq_H v hq hx).symm
    have e : (ap (invL o.2) x = q) = (x = ap o.2 q) := propext ⟨fun h => by rw [← h, v.pU.ap_inv hx], fun h => by rw [h, v.pU.inv_ap hq]⟩
    simp only [e]
    split <;> split <;> rfl
  · refine Eq.trans ?_ (sq_V v hq hx).symm
    have e : (ap (invL o.1) x = q) = (x = ap o.1 q) := propext ⟨fun h => by rw [← h, v.pR.ap_inv hx], fun h => by rw [h, v.pR.inv_ap hq]⟩
    simp only [e]
    split <;> split <;> rfl
theorem chkC_sq {o : Ori} {q : Int} : chkC o.1.length (sqL o q) = 0 := by
  unfold chkC rngC
  rw [if_neg (by simp [sqL, tab_len]), if_neg]
  rw [any_false_iff.2 fun i hi => ?_]
  · simp
  · unfold sqL at hi ⊢
    rw [tab_len] at hi
    rw [nth_tab hi]
    have : -2 ≤ sqI o q i ∧ sqI o q i ≤ 2 := by unfold sqI; (repeat' split) <;> omega
    rw [W_in (by omega) (by omega)]
    unfold outC
    exact decide_eq_false (by omega)
end Go.Fl

/- Contracts on chains that bound; the law of squares. -/
namespace Go.Fl
open Go Go.Proofs

set_option maxRecDepth 100000 in
set_option maxHeartbeats 1000000 in
theorem ct_without (o : Ori) (c m : List Int) (v : Valid o) (hc : c.length = 2 * o.1.length) (hm : m.length = o.1.length) (hr : ∀ i, -1000000 ≤ nth c i ∧ nth c i ≤ 1000000) : Ct Tryd.prog 60 [kPtr eG (gridOf o), kRd (eL eI) c, kRd (eL eI) m] (kRd (eL eI) (woT o c m o.1.length)) := by
  have hv0 := v.pos
  have hv1 := v.len
  have hv2 := v.le
  have hl1 := invL_len o.1
  have hl2 := invL_len o.2
  have hl3 := vertL_len (o := o)
  have hl4 := vtx_le (o := o)
  refine Ct.mk Tryd.func60 rfl Tryd.ntmps60 rfl (fun w J => ?_)
  refine Tr.seq ?_
  refine Tr.rg ?_
  refine TrL.op (ok_assign rfl (fun _ => rfl)) rfl rfl ?_
  refine TrL.fin ?_
  refine End.nxt ?_
  refine Tr.seq ?_
  refine Tr.rg ?_
  refine TrL.op (ok_move rfl (fun _ => rfl)) rfl rfl ?_
  refine TrL.new (ok_callN 11 (fun hp => ct_cloneN _ (by omega) (by omega)) (.a rfl (fun _ => rfl) <| .nil)) rfl rfl rfl rfl ?_
  refine TrL.op (ok_assign rfl (fun _ => rfl)) rfl rfl ?_
  refine TrL.fin ?_
  refine End.nxt ?_
  refine Tr.seq ?_
  refine Tr.seq ?_
  refine Tr.rg ?_
  refine TrL.op (ok_move rfl (fun _ => rfl)) rfl rfl ?_
  refine TrL.op (ok_lenJ rfl (fun _ => rfl)) rfl rfl ?_
  refine TrL.op (ok_move rfl (fun _ => rfl)) rfl rfl ?_
  refine TrL.fin ?_
  refine End.nxt ?_
  refine Tr.for1 (σ := Nat) [⟨0, true, _, _⟩, ⟨7, true, _, _⟩, ⟨12, true, _, _⟩, ⟨13, true, _, _⟩] [] (fun k => [⟨14, true, [], kI (k : Int)⟩]) (fun k => [⟨11, [], cArr false 3 eI (woT o c m k) c.length⟩]) (fun k => k ≤ m.length) (fun k => k = m.length) (fun k => m.length - k) (0) (Nat.zero_le _) (Ent.mk (.i rfl (by first | rfl | omega | (simp; done) | (simp; omega) | assumption) <| .k rfl rfl <| .k rfl rfl <| .k rfl rfl <| .k rfl rfl <| .nil) (.a (woT_zero hc hr) (by first | rfl | omega | (simp; done) | (simp; omega) | assumption) <| .nil) rfl) ?_ ?_
  · intro k hR0
    refine Tr.norm (S' := [⟨14, true, _, _⟩, ⟨0, true, _, _⟩, ⟨7, true, _, _⟩, ⟨12, true, _, _⟩, ⟨13, true, _, _⟩]) (M' := [⟨11, _, _⟩]) rfl rfl ?_
    refine Tr.seq ?_
    refine Tr.rg ?_
    refine TrL.op (ok_lss rfl (fun _ => rfl) rfl (fun _ => rfl)) rfl rfl ?_
    refine TrL.fin ?_
    refine End.nxt ?_
    refine Tr.seq ?_
    refine Tr.cnd rfl ?_ ?_
    · intro h3
      replace h3 := of_decide_eq_true h3
      refine Tr.skip ?_
      refine End.nxt ?_
      refine Tr.seq ?_
      refine Tr.blk ?_
      refine Tr.seq ?_
      refine Tr.rg ?_
      have a1 := v.ri (i := k) (by omega)
      have a2 := v.ui (i := k) (by omega)
      refine TrL.op (ok_move rfl (fun _ => rfl)) rfl rfl ?_
      first | refine TrL.op (ok_idxN rfl (fun _ => rfl) rfl (fun _ => rfl) rfl (fun _ => by omega)) rfl rfl ?_ | refine TrL.op (ok_idxP rfl (fun _ => rfl) rfl (fun _ => rfl) rfl (fun _ => by omega)) rfl rfl ?_
      refine TrL.op (ok_ldP rfl (fun _ => rfl) rfl) rfl rfl ?_
      refine TrL.op (ok_assign rfl (fun _ => rfl)) rfl rfl ?_
      refine TrL.op (ok_assign rfl (fun _ => rfl)) rfl rfl ?_
      refine TrL.fin ?_
      refine End.nxt ?_
      refine Tr.seq ?_
      refine Tr.rg ?_
      refine TrL.op (ok_move rfl (fun _ => rfl)) rfl rfl ?_
      refine TrL.op (ok_move rfl (fun _ => rfl)) rfl rfl ?_
      first | refine TrL.op (ok_idxEN rfl (fun _ => rfl) rfl (fun _ => rfl) (fun _ => by omega)) rfl rfl ?_ | refine TrL.op (ok_idxE rfl (fun _ => rfl) rfl (fun _ => rfl) (fun _ => by omega)) rfl rfl ?_
      refine TrL.op (ok_ldE rfl (fun _ => rfl) rfl rfl rfl) rfl rfl ?_
      refine TrL.op (ok_move rfl (fun _ => rfl)) rfl rfl ?_
      refine TrL.op (ok_subW rfl (fun _ => rfl) rfl (fun _ => rfl)) rfl rfl ?_
      first | refine TrL.op (ok_idxEN rfl (fun _ => rfl) rfl (fun _ => rfl) (fun _ => by omega)) rfl rfl ?_ | refine TrL.op (ok_idxE rfl (fun _ => rfl) rfl (fun _ => rfl) (fun _ => by omega)) rfl rfl ?_
      refine TrL.stE rfl rfl rfl rfl rfl ?_
      refine TrL.fin ?_
      refine End.nxt ?_
      refine Tr.seq ?_
      refine Tr.draw 16 mixed (by kernel_rfl) ?_
      refine RunD.op (ok_move rfl (fun _ => rfl)) rfl rfl ?_
      refine RunD.op (ok_move rfl (fun _ => rfl)) rfl rfl ?_
      refine RunD.op (ok_nilP rfl (fun _ => rfl)) rfl rfl ?_
      refine RunD.op (ok_fldP rfl (fun _ => rfl) rfl) rfl rfl ?_
      refine RunD.op (ok_ldP rfl (fun _ => rfl) rfl) rfl rfl ?_
      refine RunD.op (ok_move rfl (fun _ => rfl)) rfl rfl ?_
      refine RunD.op (ok_nilP rfl (fun _ => rfl)) rfl rfl ?_
      refine RunD.op (ok_fldP rfl (fun _ => rfl) rfl) rfl rfl ?_
      refine RunD.op (ok_ldP rfl (fun _ => rfl) rfl) rfl rfl ?_
      refine RunD.op (ok_move rfl (fun _ => rfl)) rfl rfl ?_
      first | refine RunD.op (ok_idxN rfl (fun _ => rfl) rfl (fun _ => rfl) rfl (fun _ => by omega)) rfl rfl ?_ | refine RunD.op (ok_idxP rfl (fun _ => rfl) rfl (fun _ => rfl) rfl (fun _ => by omega)) rfl rfl ?_
      refine RunD.op (ok_ldP rfl (fun _ => rfl) rfl) rfl rfl ?_
      refine RunD.op (ok_add rfl (fun _ => rfl) rfl (fun _ => rfl) (fun _ => by omega)) rfl rfl ?_
      first | refine RunD.op (ok_idxEN rfl (fun _ => rfl) rfl (fun _ => rfl) (fun _ => by omega)) rfl rfl ?_ | refine RunD.op (ok_idxE rfl (fun _ => rfl) rfl (fun _ => rfl) (fun _ => by omega)) rfl rfl ?_
      refine RunD.op (ok_ldE rfl (fun _ => rfl) rfl rfl rfl) rfl rfl ?_
      refine RunD.op (ok_move rfl (fun _ => rfl)) rfl rfl ?_
      refine RunD.z ?_
      refine TrL.op (ok_subW rfl (fun _ => rfl) rfl (fun _ => rfl)) rfl rfl ?_
      first | refine TrL.op (ok_idxEN rfl (fun _ => rfl) rfl (fun _ => rfl) (fun _ => by omega)) rfl rfl ?_ | refine TrL.op (ok_idxE rfl (fun _ => rfl) rfl (fun _ => rfl) (fun _ => by omega)) rfl rfl ?_
      refine TrL.stE rfl rfl rfl rfl rfl ?_
      refine TrL.fin ?_
      refine End.nxt ?_
      refine Tr.seq ?_
      refine Tr.rg ?_
      refine TrL.op (ok_move rfl (fun _ => rfl)) rfl rfl ?_
      refine TrL.op (ok_move rfl (fun _ => rfl)) rfl rfl ?_
      refine TrL.op (ok_nilP rfl (fun _ => rfl)) rfl rfl ?_
      refine TrL.op (ok_fldP rfl (fun _ => rfl) rfl) rfl rfl ?_
      refine TrL.op (ok_ldP rfl (fun _ => rfl) rfl) rfl rfl ?_
      refine TrL.op (ok_move rfl (fun _ => rfl)) rfl rfl ?_
      first | refine TrL.op (ok_idxN rfl (fun _ => rfl) rfl (fun _ => rfl) rfl (fun _ => by omega)) rfl rfl ?_ | refine TrL.op (ok_idxP rfl (fun _ => rfl) rfl (fun _ => rfl) rfl (fun _ => by omega)) rfl rfl ?_
      refine TrL.op (ok_ldP rfl (fun _ => rfl) rfl) rfl rfl ?_
      first | refine TrL.op (ok_idxEN rfl (fun _ => rfl) rfl (fun _ => rfl) (fun _ => by omega)) rfl rfl ?_ | refine TrL.op (ok_idxE rfl (fun _ => rfl) rfl (fun _ => rfl) (fun _ => by omega)) rfl rfl ?_
      refine TrL.op (ok_ldE rfl (fun _ => rfl) rfl rfl rfl) rfl rfl ?_
      refine TrL.op (ok_move rfl (fun _ => rfl)) rfl rfl ?_
      refine TrL.op (ok_addW rfl (fun _ => rfl) rfl (fun _ => rfl)) rfl rfl ?_
      first | refine TrL.op (ok_idxEN rfl (fun _ => rfl) rfl (fun _ => rfl) (fun _ => by omega)) rfl rfl ?_ | refine TrL.op (ok_idxE rfl (fun _ => rfl) rfl (fun _ => rfl) (fun _ => by omega)) rfl rfl ?_
      refine TrL.stE rfl rfl rfl rfl rfl ?_
      refine TrL.fin ?_
      refine End.nxt ?_
      refine Tr.rg ?_
      refine TrL.op (ok_move rfl (fun _ => rfl)) rfl rfl ?_
      refine TrL.op (ok_move rfl (fun _ => rfl)) rfl rfl ?_
      refine TrL.op (ok_nilP rfl (fun _ => rfl)) rfl rfl ?_
      refine TrL.op (ok_fldP rfl (fun _ => rfl) rfl) rfl rfl ?_
      refine TrL.op (ok_ldP rfl (fun _ => rfl) rfl) rfl rfl ?_
      refine TrL.op (ok_move rfl (fun _ => rfl)) rfl rfl ?_
      refine TrL.op (ok_add rfl (fun _ => rfl) rfl (fun _ => rfl) (fun _ => by omega)) rfl rfl ?_
      first | refine TrL.op (ok_idxEN rfl (fun _ => rfl) rfl (fun _ => rfl) (fun _ => by omega)) rfl rfl ?_ | refine TrL.op (ok_idxE rfl (fun _ => rfl) rfl (fun _ => rfl) (fun _ => by omega)) rfl rfl ?_
      refine TrL.op (ok_ldE rfl (fun _ => rfl) rfl rfl rfl) rfl rfl ?_
      refine TrL.op (ok_move rfl (fun _ => rfl)) rfl rfl ?_
      refine TrL.op (ok_addW rfl (fun _ => rfl) rfl (fun _ => rfl)) rfl rfl ?_
      first | refine TrL.op (ok_idxEN rfl (fun _ => rfl) rfl (fun _ => rfl) (fun _ => by omega)) rfl rfl ?_ | refine TrL.op (ok_idxE rfl (fun _ => rfl) rfl (fun _ => rfl) (fun _ => by omega)) rfl rfl ?_
      refine TrL.stE rfl rfl rfl rfl rfl ?_
      refine TrL.fin ?_
      refine End.blk ?_
      refine End.nxt ?_
      refine Tr.rg ?_
      refine TrL.op (ok_add rfl (fun _ => rfl) rfl (fun _ => rfl) (fun _ => by omega)) rfl rfl ?_
      refine TrL.op (ok_move rfl (fun _ => rfl)) rfl rfl ?_
      refine TrL.fin ?_
      exact End.lp (k + 1) (by first | rfl | omega | (simp; done) | (simp; omega) | assumption) (by omega) (Ent.mk (.i rfl (by first | rfl | omega | (simp; done) | (simp; omega) | assumption) <| .k rfl rfl <| .k rfl rfl <| .k rfl rfl <| .k rfl rfl <| .nil) (.a (woT_succ v (by omega) rfl rfl rfl rfl rfl rfl rfl rfl) (by first | rfl | omega | (simp; done) | (simp; omega) | assumption) <| .nil) rfl)
    · intro h3
      replace h3 := Int.not_lt.1 (of_decide_eq_false h3)
      refine Tr.exit ?_
      refine Exs.thn ?_
      refine Exs.thn ?_
      refine Exs.here ?_
      exact End.cut (k) (by omega) (Ent.mk (.i rfl (by first | rfl | omega | (simp; done) | (simp; omega) | assumption) <| .k rfl rfl <| .k rfl rfl <| .k rfl rfl <| .k rfl rfl <| .nil) (.a (by first | rfl | omega | (simp; done) | (simp; omega) | assumption) (by first | rfl | omega | (simp; done) | (simp; omega) | assumption) <| .nil) rfl)
  · rintro _ rfl
    refine End.norm (S' := [⟨14, true, _, _⟩, ⟨0, true, _, _⟩, ⟨7, true, _, _⟩, ⟨12, true, _, _⟩, ⟨13, true, _, _⟩]) (M' := [⟨11, _, _⟩]) rfl rfl ?_
    refine End.nxt ?_
    refine Tr.seq ?_
    refine Tr.rg ?_
    refine TrL.op (ok_move rfl (fun _ => rfl)) rfl rfl ?_
    refine TrL.op (ok_assign rfl (fun _ => rfl)) rfl rfl ?_
    refine TrL.fin ?_
    refine End.nxt ?_
    refine Tr.frz 11 [6] ⟨rfl, trivial⟩ (by simp only [lenMax]; omega) rfl ?_
    refine Tr.ret ?_
    exact Rts.res1 (fn := Tryd.f60) rfl (.r rfl (by rw [hm]) <| .nil)

set_option maxRecDepth 100000 in
theorem ct_hBounds (o : Ori) (c : List Int) : Ct Tryd.prog 36 [kRd eO o, kRd (eL eI) c] (kTup [kRd (eL eI) (if orE (chkO o) (chkC o.1.length c) = 0 ∧ bdB o c = true then bdX o c else []), kB (decide (orE (chkO o) (chkC o.1.length c) = 0 ∧ bdB o c = true)), kI (orE (chkO o) (chkC o.1.length c))]) := by
  refine Ct.mk Tryd.func36 rfl Tryd.ntmps36 rfl (fun w J => ?_)
  refine Tr.seq ?_
  refine Tr.rg ?_
  refine TrL.new (ok_box 2 rfl (fun _ => rfl) rfl) rfl rfl rfl rfl ?_
  refine TrL.op (ok_assign rfl (fun _ => rfl)) rfl rfl ?_
  refine TrL.op (ok_assign rfl (fun _ => rfl)) rfl rfl ?_
  refine TrL.op (ok_assign rfl (fun _ => rfl)) rfl rfl ?_
  refine TrL.fin ?_
  refine End.nxt ?_
  refine Tr.seq ?_
  refine Tr.rg ?_
  refine TrL.op (ok_ldBS rfl (fun _ => rfl)) rfl rfl ?_
  refine TrL.op (ok_call (fun hp => ct_open _) (.s rfl (fun _ => rfl) rfl <| .nil)) rfl rfl ?_
  refine TrL.op (ok_move rfl (fun _ => rfl)) rfl rfl ?_
  refine TrL.op (ok_ext rfl (fun _ => rfl) rfl) rfl rfl ?_
  refine TrL.op (ok_ext rfl (fun _ => rfl) rfl) rfl rfl ?_
  refine TrL.op (ok_assign rfl (fun _ => rfl)) rfl rfl ?_
  refine TrL.op (ok_assign rfl (fun _ => rfl)) rfl rfl ?_
  refine TrL.fin ?_
  refine End.nxt ?_
  refine Tr.seq ?_
  refine Tr.seq ?_
  refine Tr.rg ?_
  refine TrL.op (ok_move rfl (fun _ => rfl)) rfl rfl ?_
  refine TrL.op (ok_neq rfl (fun _ => rfl) rfl (fun _ => rfl)) rfl rfl ?_
  refine TrL.fin ?_
  refine End.nxt ?_
  refine Tr.cnd rfl ?_ ?_
  · intro h2
    replace h2 := of_decide_eq_true h2
    refine Tr.seq ?_
    refine Tr.rg ?_
    refine TrL.op (ok_move rfl (fun _ => rfl)) rfl rfl ?_
    refine TrL.op (ok_assign rfl (fun _ => rfl)) rfl rfl ?_
    refine TrL.op (ok_assign rfl (fun _ => rfl)) rfl rfl ?_
    refine TrL.op (ok_assign rfl (fun _ => rfl)) rfl rfl ?_
    refine TrL.fin ?_
    refine End.nxt ?_
    refine Tr.ret ?_
    refine Rts.thn ?_
    exact Rts.res (fn := Tryd.f36) (ts := [4, 5, 6]) rfl rfl (.n rfl (by rw [orE_l h2, if_neg (fun h => h2 h.1)]) <| .b rfl (by rw [orE_l h2]; simp [h2]) <| .i rfl (by rw [orE_l h2]) <| .nil)
  · intro h2
    replace h2 := Classical.not_not.1 (of_decide_eq_false h2)
    have v : Valid o := valid_of h2
    have hv2 := v.le
    refine Tr.ifT (s := 7) rfl (decide_eq_true h2) rfl ?_
    refine Tr.skip ?_
    refine End.nxt ?_
    refine Tr.seq ?_
    refine Tr.seq ?_
    refine Tr.rg ?_
    refine TrL.op (ok_move rfl (fun _ => rfl)) rfl rfl ?_
    refine TrL.op (ok_move rfl (fun _ => rfl)) rfl rfl ?_
    refine TrL.op (ok_call (fun hp => ct_checkChain _ v _) (.a rfl (fun _ => rfl) <| .a rfl (fun _ => rfl) <| .nil)) rfl rfl ?_
    refine TrL.op (ok_assign rfl (fun _ => rfl)) rfl rfl ?_
    refine TrL.fin ?_
    refine End.nxt ?_
    refine Tr.seq ?_
    refine Tr.rg ?_
    refine TrL.op (ok_move rfl (fun _ => rfl)) rfl rfl ?_
    refine TrL.op (ok_neq rfl (fun _ => rfl) rfl (fun _ => rfl)) rfl rfl ?_
    refine TrL.fin ?_
    refine End.nxt ?_
    refine Tr.cnd rfl ?_ ?_
    · intro h5
      replace h5 := of_decide_eq_true h5
      refine Tr.seq ?_
      refine Tr.rg ?_
      refine TrL.op (ok_move rfl (fun _ => rfl)) rfl rfl ?_
      refine TrL.op (ok_assign rfl (fun _ => rfl)) rfl rfl ?_
      refine TrL.op (ok_assign rfl (fun _ => rfl)) rfl rfl ?_
      refine TrL.op (ok_assign rfl (fun _ => rfl)) rfl rfl ?_
      refine TrL.fin ?_
      refine End.nxt ?_
      refine Tr.ret ?_
      refine Rts.thn ?_
      exact Rts.res (fn := Tryd.f36) (ts := [4, 5, 6]) rfl rfl (.n rfl (by rw [orE_r h2, if_neg (fun h => h5 h.1)]) <| .b rfl (by rw [orE_r h2]; simp [h5]) <| .i rfl (by rw [orE_r h2]) <| .nil)
    · intro h5
      replace h5 := Classical.not_not.1 (of_decide_eq_false h5)
      have hcl := chkC_len h5
      have hrg := rng_at (chkC_rng h5)
      have hml := (mulO_all v (c := c)).1
      have hwa := woT_any v (m := bdX o c) hcl hrg
      refine Tr.skip ?_
      refine End.nxt ?_
      refine Tr.seq ?_
      refine Tr.rg ?_
      refine TrL.op (ok_move rfl (fun _ => rfl)) rfl rfl ?_
      refine TrL.op (ok_move rfl (fun _ => rfl)) rfl rfl ?_
      refine TrL.op (ok_call (fun hp => ct_multiples _ _ (fun _ => true) v hcl) (.a rfl (fun _ => rfl) <| .a rfl (fun _ => rfl) <| .v rfl (fun _ => rfl) (kFun_ct (fun e _ => ct_Bounds1 e)) <| .nil)) rfl rfl ?_
      refine TrL.op (ok_move rfl (fun _ => rfl)) rfl rfl ?_
      refine TrL.op (ok_ext rfl (fun _ => rfl) rfl) rfl rfl ?_
      refine TrL.op (ok_ext rfl (fun _ => rfl) rfl) rfl rfl ?_
      refine TrL.op (ok_assign rfl (fun _ => rfl)) rfl rfl ?_
      refine TrL.op (ok_assign rfl (fun _ => rfl)) rfl rfl ?_
      refine TrL.fin ?_
      refine End.nxt ?_
      refine Tr.seq ?_
      refine Tr.seq ?_
      refine Tr.rg ?_
      refine TrL.op (ok_move rfl (fun _ => rfl)) rfl rfl ?_
      refine TrL.op (ok_move rfl (fun _ => rfl)) rfl rfl ?_
      refine TrL.op (ok_move rfl (fun _ => rfl)) rfl rfl ?_
      refine TrL.op (ok_call (fun hp => ct_without _ _ (bdX o c) v hcl hml hrg) (.a rfl (fun _ => rfl) <| .a rfl (fun _ => rfl) <| .a rfl (fun _ => rfl) <| .nil)) rfl rfl ?_
      refine TrL.op (ok_call (fun hp => ct_isZero _) (.a rfl (fun _ => rfl) <| .nil)) rfl rfl ?_
      refine TrL.op (ok_not rfl (fun _ => rfl)) rfl rfl ?_
      refine TrL.fin ?_
      refine End.nxt ?_
      refine Tr.cnd rfl ?_ ?_
      · intro h8
        have hB : bdB o c = false := by (rw [bdB, ← hwa]; simpa using h8)
        refine Tr.seq ?_
        refine Tr.rg ?_
        refine TrL.op (ok_assign rfl (fun _ => rfl)) rfl rfl ?_
        refine TrL.op (ok_assign rfl (fun _ => rfl)) rfl rfl ?_
        refine TrL.op (ok_assign rfl (fun _ => rfl)) rfl rfl ?_
        refine TrL.fin ?_
        refine End.nxt ?_
        refine Tr.ret ?_
        refine Rts.thn ?_
        exact Rts.res (fn := Tryd.f36) (ts := [4, 5, 6]) rfl rfl (.n rfl (by rw [hB]; simp) <| .b rfl (by rw [hB]; simp) <| .i rfl (by rw [orE_r h2, h5]) <| .nil)
      · intro h8
        have hB : bdB o c = true := by (rw [bdB, ← hwa]; simpa using h8)
        refine Tr.skip ?_
        refine End.nxt ?_
        refine Tr.seq ?_
        refine Tr.rg ?_
        refine TrL.op (ok_move rfl (fun _ => rfl)) rfl rfl ?_
        refine TrL.op (ok_assign rfl (fun _ => rfl)) rfl rfl ?_
        refine TrL.op (ok_assign rfl (fun _ => rfl)) rfl rfl ?_
        refine TrL.op (ok_assign rfl (fun _ => rfl)) rfl rfl ?_
        refine TrL.fin ?_
        refine End.nxt ?_
        refine Tr.ret ?_
        exact Rts.res (fn := Tryd.f36) (ts := [4, 5, 6]) rfl rfl (.r rfl (by rw [orE_r h2, if_pos ⟨h5, hB⟩]; rfl) <| .b rfl (by rw [orE_r h2, hB, h5]; rfl) <| .i rfl (by rw [orE_r h2, h5]) <| .nil)

set_option maxRecDepth 100000 in
theorem ct_rSum (o : Ori) (x : List Int) (v : Valid o) (hx : x.length = o.1.length) : Ct Tryd.prog 61 [kRd eLand (landOf o), kRd (eL eI) x] (kRd (eL eI) (potL o x)) := by
  have hv0 := v.pos
  have hv1 := v.len
  have hv2 := v.le
  have hl1 := invL_len o.1
  have hl2 := invL_len o.2
  have hl3 := vertL_len (o := o)
  have hl4 := vtx_le (o := o)
  refine Ct.mk Tryd.func61 rfl Tryd.ntmps61 rfl (fun w J => ?_)
  refine Tr.seq ?_
  refine Tr.rg ?_
  refine TrL.new (ok_box 2 rfl (fun _ => rfl) rfl) rfl rfl rfl rfl ?_
  refine TrL.op (ok_assign rfl (fun _ => rfl)) rfl rfl ?_
  refine TrL.fin ?_
  refine End.nxt ?_
  refine Tr.seq ?_
  refine Tr.rg ?_
  refine TrL.op (ok_fldO rfl (fun _ => rfl)) rfl rfl ?_
  refine TrL.op (ok_ldB rfl (fun _ => rfl) rfl) rfl rfl ?_
  refine TrL.op (ok_mul rfl (fun _ => rfl) rfl (fun _ => rfl) (fun _ => by omega)) rfl rfl ?_
  refine TrL.new (ok_make eI 12 rfl (fun _ => rfl) rfl (fun _ => rfl) rfl rfl (fun _ => by omega)) rfl rfl rfl rfl ?_
  refine TrL.op (ok_assign rfl (fun _ => rfl)) rfl rfl ?_
  refine TrL.fin ?_
  refine End.nxt ?_
  refine Tr.seq ?_
  refine Tr.seq ?_
  refine Tr.rg ?_
  refine TrL.op (ok_assign rfl (fun _ => rfl)) rfl rfl ?_
  refine TrL.fin ?_
  refine End.nxt ?_
  refine Tr.for1 (σ := Nat) [⟨1, true, _, _⟩, ⟨2, true, _, _⟩, ⟨5, true, _, _⟩] [⟨2, _, _⟩] (fun k => [⟨6, true, [], kI (k : Int)⟩]) (fun k => [⟨12, [], cArr false 3 eI (suT o x k 0) (2 * o.1.length)⟩]) (fun k => k ≤ o.1.length) (fun k => k = o.1.length) (fun k => o.1.length - k) (0) (Nat.zero_le _) (Ent.mk (.i rfl (by first | rfl | omega | (simp; done) | (simp; omega) | assumption) <| .k rfl rfl <| .k rfl rfl <| .k rfl rfl <| .nil) (.a (by rw [show ((2 : Int) * o.1.length).toNat = 2 * o.1.length by omega]; exact suT_zero) (by omega) <| .k rfl <| .nil) rfl) ?_ ?_
  · intro k hR0
    refine Tr.norm (S' := [⟨6, true, _, _⟩, ⟨1, true, _, _⟩, ⟨2, true, _, _⟩, ⟨5, true, _, _⟩]) (M' := [⟨12, _, _⟩, ⟨2, _, _⟩]) rfl rfl ?_
    refine Tr.seq ?_
    refine Tr.seq ?_
    refine Tr.rg ?_
    refine TrL.op (ok_move rfl (fun _ => rfl)) rfl rfl ?_
    refine TrL.op (ok_fldO rfl (fun _ => rfl)) rfl rfl ?_
    refine TrL.op (ok_ldB rfl (fun _ => rfl) rfl) rfl rfl ?_
    refine TrL.op (ok_lss rfl (fun _ => rfl) rfl (fun _ => rfl)) rfl rfl ?_
    refine TrL.fin ?_
    refine End.nxt ?_
    refine Tr.cnd rfl ?_ ?_
    · intro h3
      replace h3 := of_decide_eq_true h3
      refine Tr.skip ?_
      refine End.nxt ?_
      refine Tr.seq ?_
      refine Tr.blk ?_
      refine Tr.seq ?_
      refine Tr.rg ?_
      refine TrL.op (ok_ldBS rfl (fun _ => rfl)) rfl rfl ?_
      refine TrL.op (ok_move rfl (fun _ => rfl)) rfl rfl ?_
      refine TrL.op (ok_call (fun hp => ct_rSquare _ _ v (by omega) (by omega)) (.s rfl (fun _ => rfl) rfl <| .a rfl (fun _ => rfl) <| .nil)) rfl rfl ?_
      refine TrL.op (ok_assign rfl (fun _ => rfl)) rfl rfl ?_
      refine TrL.fin ?_
      refine End.nxt ?_
      refine Tr.seq ?_
      refine Tr.rg ?_
      refine TrL.op (ok_assign rfl (fun _ => rfl)) rfl rfl ?_
      refine TrL.fin ?_
      refine End.nxt ?_
      refine Tr.for1 (σ := Nat) [⟨1, true, _, _⟩, ⟨2, true, _, _⟩, ⟨5, true, _, _⟩, ⟨6, true, _, _⟩, ⟨7, true, _, _⟩] [⟨2, _, _⟩] (fun j => [⟨8, true, [], kI (j : Int)⟩]) (fun j => [⟨12, [], cArr false 3 eI (suT o x k j) (2 * o.1.length)⟩]) (fun j => j ≤ (sqL o k).length) (fun j => j = (sqL o k).length) (fun j => (sqL o k).length - j) (0) (Nat.zero_le _) (Ent.mk (.i rfl (by first | rfl | omega | (simp; done) | (simp; omega) | assumption) <| .k rfl rfl <| .k rfl rfl <| .k rfl rfl <| .k rfl rfl <| .k rfl rfl <| .nil) (.a (by first | rfl | omega | (simp; done) | (simp; omega) | assumption) (by first | rfl | omega | (simp; done) | (simp; omega) | assumption) <| .k rfl <| .nil) rfl) ?_ ?_
      · intro j hR1
        refine Tr.norm (S' := [⟨8, true, _, _⟩, ⟨1, true, _, _⟩, ⟨2, true, _, _⟩, ⟨5, true, _, _⟩, ⟨6, true, _, _⟩, ⟨7, true, _, _⟩]) (M' := [⟨12, _, _⟩, ⟨2, _, _⟩]) rfl rfl ?_
        have hsl : (sqL o k).length = 2 * o.1.length := tab_len
        refine Tr.seq ?_
        refine Tr.seq ?_
        refine Tr.rg ?_
        refine TrL.op (ok_move rfl (fun _ => rfl)) rfl rfl ?_
        refine TrL.op (ok_move rfl (fun _ => rfl)) rfl rfl ?_
        refine TrL.op (ok_lenJ rfl (fun _ => rfl)) rfl rfl ?_
        refine TrL.op (ok_lss rfl (fun _ => rfl) rfl (fun _ => rfl)) rfl rfl ?_
        refine TrL.fin ?_
        refine End.nxt ?_
        refine Tr.cnd rfl ?_ ?_
        · intro h7
          replace h7 := of_decide_eq_true h7
          refine Tr.skip ?_
          refine End.nxt ?_
          refine Tr.seq ?_
          refine Tr.blk ?_
          refine Tr.draw 16 mixed (by kernel_rfl) ?_
          refine RunD.op (ok_move rfl (fun _ => rfl)) rfl rfl ?_
          refine RunD.op (ok_move rfl (fun _ => rfl)) rfl rfl ?_
          refine RunD.op (ok_move rfl (fun _ => rfl)) rfl rfl ?_
          refine RunD.op (ok_move rfl (fun _ => rfl)) rfl rfl ?_
          first | refine RunD.op (ok_idxEN rfl (fun _ => rfl) rfl (fun _ => rfl) (fun _ => by omega)) rfl rfl ?_ | refine RunD.op (ok_idxE rfl (fun _ => rfl) rfl (fun _ => rfl) (fun _ => by omega)) rfl rfl ?_
          refine RunD.op (ok_ldE rfl (fun _ => rfl) rfl rfl rfl) rfl rfl ?_
          refine RunD.op (ok_move rfl (fun _ => rfl)) rfl rfl ?_
          refine RunD.op (ok_move rfl (fun _ => rfl)) rfl rfl ?_
          first | refine RunD.op (ok_idxN rfl (fun _ => rfl) rfl (fun _ => rfl) rfl (fun _ => by omega)) rfl rfl ?_ | refine RunD.op (ok_idxP rfl (fun _ => rfl) rfl (fun _ => rfl) rfl (fun _ => by omega)) rfl rfl ?_
          refine RunD.op (ok_ldP rfl (fun _ => rfl) rfl) rfl rfl ?_
          refine RunD.op (ok_move rfl (fun _ => rfl)) rfl rfl ?_
          refine RunD.op (ok_move rfl (fun _ => rfl)) rfl rfl ?_
          first | refine RunD.op (ok_idxN rfl (fun _ => rfl) rfl (fun _ => rfl) rfl (fun _ => by omega)) rfl rfl ?_ | refine RunD.op (ok_idxP rfl (fun _ => rfl) rfl (fun _ => rfl) rfl (fun _ => by omega)) rfl rfl ?_
          refine RunD.op (ok_ldP rfl (fun _ => rfl) rfl) rfl rfl ?_
          refine RunD.op (ok_mulW rfl (fun _ => rfl) rfl (fun _ => rfl)) rfl rfl ?_
          refine RunD.op (ok_addW rfl (fun _ => rfl) rfl (fun _ => rfl)) rfl rfl ?_
          refine RunD.z ?_
          first | refine TrL.op (ok_idxEN rfl (fun _ => rfl) rfl (fun _ => rfl) (fun _ => by omega)) rfl rfl ?_ | refine TrL.op (ok_idxE rfl (fun _ => rfl) rfl (fun _ => rfl) (fun _ => by omega)) rfl rfl ?_
          refine TrL.stE rfl rfl rfl rfl rfl ?_
          refine TrL.fin ?_
          refine End.blk ?_
          refine End.nxt ?_
          refine Tr.rg ?_
          refine TrL.op (ok_move rfl (fun _ => rfl)) rfl rfl ?_
          refine TrL.op (ok_add rfl (fun _ => rfl) rfl (fun _ => rfl) (fun _ => by omega)) rfl rfl ?_
          refine TrL.op (ok_assign rfl (fun _ => rfl)) rfl rfl ?_
          refine TrL.fin ?_
          exact End.lp (j + 1) (by first | rfl | omega | (simp; done) | (simp; omega) | assumption) (by omega) (Ent.mk (.i rfl (by first | rfl | omega | (simp; done) | (simp; omega) | assumption) <| .k rfl rfl <| .k rfl rfl <| .k rfl rfl <| .k rfl rfl <| .k rfl rfl <| .nil) (.a (suT_set (by omega) rfl) (by first | rfl | omega | (simp; done) | (simp; omega) | assumption) <| .k rfl <| .nil) rfl)
        · intro h7
          replace h7 := Int.not_lt.1 (of_decide_eq_false h7)
          refine Tr.exit ?_
          refine Exs.thn ?_
          refine Exs.thn ?_
          refine Exs.here ?_
          exact End.cut (j) (by omega) (Ent.mk (.i rfl (by first | rfl | omega | (simp; done) | (simp; omega) | assumption) <| .k rfl rfl <| .k rfl rfl <| .k rfl rfl <| .k rfl rfl <| .k rfl rfl <| .nil) (.a (by first | rfl | omega | (simp; done) | (simp; omega) | assumption) (by first | rfl | omega | (simp; done) | (simp; omega) | assumption) <| .k rfl <| .nil) rfl)
      · rintro _ rfl
        refine End.norm (S' := [⟨8, true, _, _⟩, ⟨1, true, _, _⟩, ⟨2, true, _, _⟩, ⟨5, true, _, _⟩, ⟨6, true, _, _⟩, ⟨7, true, _, _⟩]) (M' := [⟨12, _, _⟩, ⟨2, _, _⟩]) rfl rfl ?_
        have hsl : (sqL o k).length = 2 * o.1.length := tab_len
        refine End.blk ?_
        refine End.nxt ?_
        refine Tr.rg ?_
        refine TrL.op (ok_move rfl (fun _ => rfl)) rfl rfl ?_
        refine TrL.op (ok_add rfl (fun _ => rfl) rfl (fun _ => rfl) (fun _ => by omega)) rfl rfl ?_
        refine TrL.op (ok_assign rfl (fun _ => rfl)) rfl rfl ?_
        refine TrL.fin ?_
        exact End.lp (k + 1) (by first | rfl | omega | (simp; done) | (simp; omega) | assumption) (by omega) (Ent.mk (.i rfl (by first | rfl | omega | (simp; done) | (simp; omega) | assumption) <| .k rfl rfl <| .k rfl rfl <| .k rfl rfl <| .nil) (.a (by rw [← suT_row, hsl]) (by first | rfl | omega | (simp; done) | (simp; omega) | assumption) <| .k rfl <| .nil) rfl)
    · intro h3
      replace h3 := Int.not_lt.1 (of_decide_eq_false h3)
      refine Tr.exit ?_
      refine Exs.thn ?_
      refine Exs.thn ?_
      refine Exs.here ?_
      exact End.cut (k) (by omega) (Ent.mk (.i rfl (by first | rfl | omega | (simp; done) | (simp; omega) | assumption) <| .k rfl rfl <| .k rfl rfl <| .k rfl rfl <| .nil) (.a (by first | rfl | omega | (simp; done) | (simp; omega) | assumption) (by first | rfl | omega | (simp; done) | (simp; omega) | assumption) <| .k rfl <| .nil) rfl)
  · rintro _ rfl
    refine End.norm (S' := [⟨6, true, _, _⟩, ⟨1, true, _, _⟩, ⟨2, true, _, _⟩, ⟨5, true, _, _⟩]) (M' := [⟨12, _, _⟩, ⟨2, _, _⟩]) rfl rfl ?_
    refine End.nxt ?_
    refine Tr.seq ?_
    refine Tr.rg ?_
    refine TrL.op (ok_move rfl (fun _ => rfl)) rfl rfl ?_
    refine TrL.op (ok_assign rfl (fun _ => rfl)) rfl rfl ?_
    refine TrL.fin ?_
    refine End.nxt ?_
    refine Tr.frz 12 [4] ⟨rfl, trivial⟩ (by simp only [lenMax]; omega) rfl ?_
    refine Tr.ret ?_
    exact Rts.res1 (fn := Tryd.f61) rfl (.r rfl (suT_all v) <| .nil)

set_option maxRecDepth 100000 in
set_option maxHeartbeats 1000000 in
theorem ct_rBounds (o : Ori) (c : List Int) (v : Valid o) (hc : c.length = 2 * o.1.length) (hr : ∀ i, -1000000 ≤ nth c i ∧ nth c i ≤ 1000000) : Ct Tryd.prog 39 [kRd eLand (landOf o), kRd (eL eI) c] (kTup [kRd (eL eI) (if bdB o c = true then bdX o c else []), kB (bdB o c)]) := by
  have hv0 := v.pos
  have hv1 := v.len
  have hv2 := v.le
  have hl1 := invL_len o.1
  have hl2 := invL_len o.2
  have hl3 := vertL_len (o := o)
  have hl4 := vtx_le (o := o)
  refine Ct.mk Tryd.func39 rfl Tryd.ntmps39 rfl (fun w J => ?_)
  refine Tr.seq ?_
  refine Tr.rg ?_
  refine TrL.new (ok_box 2 rfl (fun _ => rfl) rfl) rfl rfl rfl rfl ?_
  refine TrL.op (ok_assign rfl (fun _ => rfl)) rfl rfl ?_
  refine TrL.op (ok_assign rfl (fun _ => rfl)) rfl rfl ?_
  refine TrL.fin ?_
  refine End.nxt ?_
  refine Tr.seq ?_
  refine Tr.draw 7 mixed (by kernel_rfl) ?_
  refine RunD.op (ok_fldO rfl (fun _ => rfl)) rfl rfl ?_
  refine RunD.op (ok_ldB rfl (fun _ => rfl) rfl) rfl rfl ?_
  refine RunD.new (ok_makeN eI 16 rfl (fun _ => rfl) rfl (fun _ => rfl) rfl rfl rfl (fun _ => by omega)) rfl rfl rfl rfl ?_
  refine RunD.op (ok_fldO rfl (fun _ => rfl)) rfl rfl ?_
  refine RunD.op (ok_ldB rfl (fun _ => rfl) rfl) rfl rfl ?_
  refine RunD.new (ok_makeN eBool 19 rfl (fun _ => rfl) rfl (fun _ => rfl) rfl rfl rfl (fun _ => by omega)) rfl rfl rfl rfl ?_
  refine RunD.opN (ok_assign rfl (fun _ => rfl)) rfl rfl ?_
  refine RunD.z ?_
  refine TrL.op (ok_assign rfl (fun _ => rfl)) rfl rfl ?_
  refine TrL.fin ?_
  refine End.nxt ?_
  refine Tr.seq ?_
  refine Tr.seq ?_
  refine Tr.rg ?_
  refine TrL.op (ok_assign rfl (fun _ => rfl)) rfl rfl ?_
  refine TrL.fin ?_
  refine End.nxt ?_
  refine Tr.for1 (σ := Nat × List Bool × List Int) [⟨1, true, _, _⟩, ⟨2, true, _, _⟩, ⟨6, true, _, _⟩, ⟨7, true, _, _⟩] [⟨2, _, _⟩] (fun (i, K, X) => [⟨8, true, [], kI (i : Int)⟩]) (fun (i, K, X) => [⟨16, [], cArr false 3 eI X o.1.length⟩, ⟨19, [], cArr false 4 eBool K o.1.length⟩]) (fun (i, K, X) => i ≤ o.1.length ∧ RInv o c i K X ∧ Closed o K) (fun (i, K, X) => RInv o c o.1.length K X) (fun (i, K, X) => o.1.length - i) ((0, List.replicate o.1.length false, List.replicate o.1.length 0)) ⟨Nat.zero_le _, RInv.zero, Closed.zero v⟩ (Ent.mk (.i rfl (by first | rfl | omega | (simp; done) | (simp; omega) | assumption) <| .k rfl rfl <| .k rfl rfl <| .k rfl rfl <| .k rfl rfl <| .nil) (.a (by first | rfl | omega | (simp; done) | (simp; omega) | assumption) (by first | rfl | omega | (simp; done) | (simp; omega) | assumption) <| .a (by first | rfl | omega | (simp; done) | (simp; omega) | assumption) (by first | rfl | omega | (simp; done) | (simp; omega) | assumption) <| .k rfl <| .nil) rfl) ?_ ?_
  · rintro ⟨i, K, X⟩ ⟨hi, hI, hC⟩
    refine Tr.norm (S' := [⟨8, true, _, _⟩, ⟨1, true, _, _⟩, ⟨2, true, _, _⟩, ⟨6, true, _, _⟩, ⟨7, true, _, _⟩]) (M' := [⟨16, _, _⟩, ⟨19, _, _⟩, ⟨2, _, _⟩]) rfl rfl ?_
    refine Tr.seq ?_
    refine Tr.seq ?_
    refine Tr.rg ?_
    refine TrL.op (ok_move rfl (fun _ => rfl)) rfl rfl ?_
    refine TrL.op (ok_fldO rfl (fun _ => rfl)) rfl rfl ?_
    refine TrL.op (ok_ldB rfl (fun _ => rfl) rfl) rfl rfl ?_
    refine TrL.op (ok_lss rfl (fun _ => rfl) rfl (fun _ => rfl)) rfl rfl ?_
    refine TrL.fin ?_
    refine End.nxt ?_
    refine Tr.cnd rfl ?_ ?_
    · intro h3
      replace h3 := of_decide_eq_true h3
      refine Tr.skip ?_
      refine End.nxt ?_
      refine Tr.seq ?_
      refine Tr.blk ?_
      refine Tr.seq ?_
      refine Tr.seq ?_
      refine Tr.rg ?_
      refine TrL.op (ok_move rfl (fun _ => rfl)) rfl rfl ?_
      refine TrL.op (ok_move rfl (fun _ => rfl)) rfl rfl ?_
      first | refine TrL.op (ok_idxEN rfl (fun _ => rfl) rfl (fun _ => rfl) (fun _ => by omega)) rfl rfl ?_ | refine TrL.op (ok_idxE rfl (fun _ => rfl) rfl (fun _ => rfl) (fun _ => by omega)) rfl rfl ?_
      refine TrL.op (ok_ldE rfl (fun _ => rfl) rfl rfl rfl) rfl rfl ?_
      refine TrL.fin ?_
      refine End.nxt ?_
      refine Tr.cnd rfl ?_ ?_
      · intro h5
        try simp only [decide_eq_true_eq, decide_eq_false_iff_not, Bool.and_eq_true, Bool.or_eq_true, Bool.not_eq_true', Bool.not_eq_false', Bool.and_eq_false_imp, Bool.or_eq_false_iff, Int.not_lt, Int.not_le, ne_eq, Classical.not_not, Nat.not_lt, Nat.not_le] at h5
        refine Tr.exit ?_
        refine Exs.thn ?_
        refine Exs.here ?_
        refine End.nxt ?_
        refine Tr.rg ?_
        refine TrL.op (ok_move rfl (fun _ => rfl)) rfl rfl ?_
        refine TrL.op (ok_add rfl (fun _ => rfl) rfl (fun _ => rfl) (fun _ => by omega)) rfl rfl ?_
        refine TrL.op (ok_assign rfl (fun _ => rfl)) rfl rfl ?_
        refine TrL.fin ?_
        exact End.lp ((i + 1, K, X)) ⟨by omega, ⟨hI.kl, hI.xl, hI.kx, all_succ hI.lo h5⟩, hC⟩ (show o.1.length - (i + 1) < o.1.length - i by omega) (Ent.mk (.i rfl (by first | rfl | omega | (simp; done) | (simp; omega) | assumption) <| .k rfl rfl <| .k rfl rfl <| .k rfl rfl <| .k rfl rfl <| .nil) (.a (by first | rfl | omega | (simp; done) | (simp; omega) | assumption) (by first | rfl | omega | (simp; done) | (simp; omega) | assumption) <| .a (by first | rfl | omega | (simp; done) | (simp; omega) | assumption) (by first | rfl | omega | (simp; done) | (simp; omega) | assumption) <| .k rfl <| .nil) rfl)
      · intro h5
        try simp only [decide_eq_true_eq, decide_eq_false_iff_not, Bool.and_eq_true, Bool.or_eq_true, Bool.not_eq_true', Bool.not_eq_false', Bool.and_eq_false_imp, Bool.or_eq_false_iff, Int.not_lt, Int.not_le, ne_eq, Classical.not_not, Nat.not_lt, Nat.not_le] at h5
        refine Tr.skip ?_
        refine End.nxt ?_
        refine Tr.seq ?_
        refine Tr.rg ?_
        refine TrL.op (ok_move rfl (fun _ => rfl)) rfl rfl ?_
        refine TrL.op (ok_move rfl (fun _ => rfl)) rfl rfl ?_
        first | refine TrL.op (ok_idxEN rfl (fun _ => rfl) rfl (fun _ => rfl) (fun _ => by omega)) rfl rfl ?_ | refine TrL.op (ok_idxE rfl (fun _ => rfl) rfl (fun _ => rfl) (fun _ => by omega)) rfl rfl ?_
        refine TrL.stE rfl rfl rfl rfl rfl ?_
        refine TrL.fin ?_
        refine End.nxt ?_
        refine Tr.seq ?_
        refine Tr.rg ?_
        refine TrL.op (ok_assign rfl (fun _ => rfl)) rfl rfl ?_
        refine TrL.fin ?_
        refine End.nxt ?_
        refine Tr.for1 (σ := Bool × List Bool × List Int) [⟨1, true, _, _⟩, ⟨2, true, _, _⟩, ⟨6, true, _, _⟩, ⟨7, true, _, _⟩, ⟨8, true, _, _⟩] [⟨2, _, _⟩] (fun (ag, K2, X2) => [⟨9, true, [], kB ag⟩]) (fun (ag, K2, X2) => [⟨16, [], cArr false 3 eI X2 o.1.length⟩, ⟨19, [], cArr false 4 eBool K2 o.1.length⟩]) (fun (ag, K2, X2) => RInv o c (i + 1) K2 X2 ∧ (ag = false → Closed o K2)) (fun (ag, K2, X2) => RInv o c (i + 1) K2 X2 ∧ Closed o K2) (fun (ag, K2, X2) => 2 * K2.count false + (if ag = true then 1 else 0)) ((true, K.set i true, X)) ⟨hI.start hC (by omega) h5, fun e => (by cases e)⟩ (Ent.mk (.b rfl (by first | rfl | omega | (simp; done) | (simp; omega) | assumption) <| .k rfl rfl <| .k rfl rfl <| .k rfl rfl <| .k rfl rfl <| .k rfl rfl <| .nil) (.a (by first | rfl | omega | (simp; done) | (simp; omega) | assumption) (by first | rfl | omega | (simp; done) | (simp; omega) | assumption) <| .a (by first | rfl | omega | (simp; done) | (simp; omega) | assumption) (by first | rfl | omega | (simp; done) | (simp; omega) | assumption) <| .k rfl <| .nil) rfl) ?_ ?_
        · rintro ⟨ag, K2, X2⟩ ⟨hI2, hC2⟩
          refine Tr.norm (S' := [⟨9, true, _, _⟩, ⟨1, true, _, _⟩, ⟨2, true, _, _⟩, ⟨6, true, _, _⟩, ⟨7, true, _, _⟩, ⟨8, true, _, _⟩]) (M' := [⟨16, _, _⟩, ⟨19, _, _⟩, ⟨2, _, _⟩]) rfl rfl ?_
          refine Tr.seq ?_
          refine Tr.seq ?_
          refine Tr.rg ?_
          refine TrL.op (ok_move rfl (fun _ => rfl)) rfl rfl ?_
          refine TrL.fin ?_
          refine End.nxt ?_
          refine Tr.cnd rfl ?_ ?_
          · intro h8
            try simp only [decide_eq_true_eq, decide_eq_false_iff_not, Bool.and_eq_true, Bool.or_eq_true, Bool.not_eq_true', Bool.not_eq_false', Bool.and_eq_false_imp, Bool.or_eq_false_iff, Int.not_lt, Int.not_le, ne_eq, Classical.not_not, Nat.not_lt, Nat.not_le] at h8
            refine Tr.skip ?_
            refine End.nxt ?_
            refine Tr.blk ?_
            refine Tr.seq ?_
            refine Tr.rg ?_
            refine TrL.op (ok_assign rfl (fun _ => rfl)) rfl rfl ?_
            refine TrL.fin ?_
            refine End.nxt ?_
            refine Tr.seq ?_
            refine Tr.rg ?_
            refine TrL.op (ok_assign rfl (fun _ => rfl)) rfl rfl ?_
            refine TrL.fin ?_
            refine End.nxt ?_
            refine Tr.for1 (σ := Nat × Bool × List Bool × List Int) [⟨1, true, _, _⟩, ⟨2, true, _, _⟩, ⟨6, true, _, _⟩, ⟨7, true, _, _⟩, ⟨8, true, _, _⟩] [⟨2, _, _⟩] (fun (k, ag3, K3, X3) => [⟨10, true, [], kI (k : Int)⟩, ⟨9, true, [], kB ag3⟩]) (fun (k, ag3, K3, X3) => [⟨16, [], cArr false 3 eI X3 o.1.length⟩, ⟨19, [], cArr false 4 eBool K3 o.1.length⟩]) (fun (k, ag3, K3, X3) => k ≤ o.1.length ∧ RInv o c (i + 1) K3 X3 ∧ RPas o K2 ag3 K3 k 0) (fun (k, ag3, K3, X3) => RInv o c (i + 1) K3 X3 ∧ RPas o K2 ag3 K3 o.1.length 0) (fun (k, ag3, K3, X3) => o.1.length - k) ((0, false, K2, X2)) ⟨Nat.zero_le _, hI2, RPas.zero⟩ (Ent.mk (.i rfl (by first | rfl | omega | (simp; done) | (simp; omega) | assumption) <| .b rfl (by first | rfl | omega | (simp; done) | (simp; omega) | assumption) <| .k rfl rfl <| .k rfl rfl <| .k rfl rfl <| .k rfl rfl <| .k rfl rfl <| .nil) (.a (by first | rfl | omega | (simp; done) | (simp; omega) | assumption) (by first | rfl | omega | (simp; done) | (simp; omega) | assumption) <| .a (by first | rfl | omega | (simp; done) | (simp; omega) | assumption) (by first | rfl | omega | (simp; done) | (simp; omega) | assumption) <| .k rfl <| .nil) rfl) ?_ ?_
            · rintro ⟨k, ag3, K3, X3⟩ ⟨hk, hI3, hP3⟩
              refine Tr.norm (S' := [⟨10, true, _, _⟩, ⟨9, true, _, _⟩, ⟨1, true, _, _⟩, ⟨2, true, _, _⟩, ⟨6, true, _, _⟩, ⟨7, true, _, _⟩, ⟨8, true, _, _⟩]) (M' := [⟨16, _, _⟩, ⟨19, _, _⟩, ⟨2, _, _⟩]) rfl rfl ?_
              refine Tr.seq ?_
              refine Tr.seq ?_
              refine Tr.rg ?_
              refine TrL.op (ok_move rfl (fun _ => rfl)) rfl rfl ?_
              refine TrL.op (ok_fldO rfl (fun _ => rfl)) rfl rfl ?_
              refine TrL.op (ok_ldB rfl (fun _ => rfl) rfl) rfl rfl ?_
              refine TrL.op (ok_lss rfl (fun _ => rfl) rfl (fun _ => rfl)) rfl rfl ?_
              refine TrL.fin ?_
              refine End.nxt ?_
              refine Tr.cnd rfl ?_ ?_
              · intro h11
                replace h11 := of_decide_eq_true h11
                refine Tr.skip ?_
                refine End.nxt ?_
                refine Tr.seq ?_
                refine Tr.blk ?_
                refine Tr.seq ?_
                refine Tr.rg ?_
                refine TrL.op (ok_assign rfl (fun _ => rfl)) rfl rfl ?_
                refine TrL.fin ?_
                refine End.nxt ?_
                refine Tr.for1 (σ := Nat × Bool × List Bool × List Int) [⟨1, true, _, _⟩, ⟨2, true, _, _⟩, ⟨6, true, _, _⟩, ⟨7, true, _, _⟩, ⟨8, true, _, _⟩, ⟨10, true, _, _⟩] [⟨2, _, _⟩] (fun (s, ag4, K4, X4) => [⟨11, true, [], kI (s : Int)⟩, ⟨9, true, [], kB ag4⟩]) (fun (s, ag4, K4, X4) => [⟨16, [], cArr false 3 eI X4 o.1.length⟩, ⟨19, [], cArr false 4 eBool K4 o.1.length⟩]) (fun (s, ag4, K4, X4) => s ≤ 2 ∧ RInv o c (i + 1) K4 X4 ∧ RPas o K2 ag4 K4 k s) (fun (s, ag4, K4, X4) => RInv o c (i + 1) K4 X4 ∧ RPas o K2 ag4 K4 k 2) (fun (s, ag4, K4, X4) => 2 - s) ((0, ag3, K3, X3)) ⟨by omega, hI3, hP3⟩ (Ent.mk (.i rfl (by first | rfl | omega | (simp; done) | (simp; omega) | assumption) <| .b rfl (by first | rfl | omega | (simp; done) | (simp; omega) | assumption) <| .k rfl rfl <| .k rfl rfl <| .k rfl rfl <| .k rfl rfl <| .k rfl rfl <| .k rfl rfl <| .nil) (.a (by first | rfl | omega | (simp; done) | (simp; omega) | assumption) (by first | rfl | omega | (simp; done) | (simp; omega) | assumption) <| .a (by first | rfl | omega | (simp; done) | (simp; omega) | assumption) (by first | rfl | omega | (simp; done) | (simp; omega) | assumption) <| .k rfl <| .nil) rfl) ?_ ?_
                · rintro ⟨s, ag4, K4, X4⟩ ⟨hs, hI4, hP4⟩
                  refine Tr.norm (S' := [⟨11, true, _, _⟩, ⟨9, true, _, _⟩, ⟨1, true, _, _⟩, ⟨2, true, _, _⟩, ⟨6, true, _, _⟩, ⟨7, true, _, _⟩, ⟨8, true, _, _⟩, ⟨10, true, _, _⟩]) (M' := [⟨16, _, _⟩, ⟨19, _, _⟩, ⟨2, _, _⟩]) rfl rfl ?_
                  refine Tr.seq ?_
                  refine Tr.seq ?_
                  refine Tr.rg ?_
                  refine TrL.op (ok_move rfl (fun _ => rfl)) rfl rfl ?_
                  refine TrL.op (ok_lss rfl (fun _ => rfl) rfl (fun _ => rfl)) rfl rfl ?_
                  refine TrL.fin ?_
                  refine End.nxt ?_
                  refine Tr.cnd rfl ?_ ?_
                  · intro h14
                    replace h14 := of_decide_eq_true h14
                    refine Tr.skip ?_
                    refine End.nxt ?_
                    refine Tr.seq ?_
                    refine Tr.blk ?_
                    refine Tr.seq ?_
                    refine Tr.draw 11 mixed (by kernel_rfl) ?_
                    have hoq := oth_sq v (s := s) (k := k) (by omega)
                    have hoq0 := hoq.1
                    have hoq1 := hoq.2
                    have a5 := invR v (i := k) (by omega)
                    have a6 := invU v (i := k) (by omega)
                    have hck := hr k
                    have hcn := hr ((o.1.length : Int) + k).toNat
                    refine RunD.op (ok_fldO rfl (fun _ => rfl)) rfl rfl ?_
                    refine RunD.op (ok_ldB rfl (fun _ => rfl) rfl) rfl rfl ?_
                    refine RunD.op (ok_move rfl (fun _ => rfl)) rfl rfl ?_
                    first | refine RunD.op (ok_idxN rfl (fun _ => rfl) rfl (fun _ => rfl) rfl (fun _ => by omega)) rfl rfl ?_ | refine RunD.op (ok_idxP rfl (fun _ => rfl) rfl (fun _ => rfl) rfl (fun _ => by omega)) rfl rfl ?_
                    refine RunD.op (ok_ldP rfl (fun _ => rfl) rfl) rfl rfl ?_
                    refine RunD.op (ok_move rfl (fun _ => rfl)) rfl rfl ?_
                    refine RunD.op (ok_move rfl (fun _ => rfl)) rfl rfl ?_
                    first | refine RunD.op (ok_idxN rfl (fun _ => rfl) rfl (fun _ => rfl) rfl (fun _ => by omega)) rfl rfl ?_ | refine RunD.op (ok_idxP rfl (fun _ => rfl) rfl (fun _ => rfl) rfl (fun _ => by omega)) rfl rfl ?_
                    refine RunD.op (ok_ldP rfl (fun _ => rfl) rfl) rfl rfl ?_
                    refine RunD.op (ok_neg rfl (fun _ => rfl) (fun _ => by omega)) rfl rfl ?_
                    refine RunD.op (ok_assign rfl (fun _ => rfl)) rfl rfl ?_
                    refine RunD.z ?_
                    refine TrL.op (ok_assign rfl (fun _ => rfl)) rfl rfl ?_
                    refine TrL.fin ?_
                    refine End.nxt ?_
                    refine Tr.meet2 (σ := Unit) [⟨1, true, _, _⟩, ⟨2, true, _, _⟩, ⟨6, true, _, _⟩, ⟨7, true, _, _⟩, ⟨8, true, _, _⟩, ⟨9, true, _, _⟩, ⟨10, true, _, _⟩, ⟨11, true, _, _⟩] [⟨2, _, _⟩, ⟨16, _, _⟩, ⟨19, _, _⟩] (.k rfl rfl <| .k rfl rfl <| .k rfl rfl <| .k rfl rfl <| .k rfl rfl <| .k rfl rfl <| .k rfl rfl <| .k rfl rfl <| .nil) (.k rfl <| .k rfl <| .k rfl <| .nil) (fun _ => [⟨12, true, [], kI (oth o k s)⟩, ⟨13, true, [], kI (odd o c k s)⟩]) (fun _ => []) (fun _ => True) ?_ ?_
                    · skip
                      refine Tr.seq ?_
                      refine Tr.rg ?_
                      refine TrL.op (ok_move rfl (fun _ => rfl)) rfl rfl ?_
                      refine TrL.op (ok_eql rfl (fun _ => rfl) rfl (fun _ => rfl)) rfl rfl ?_
                      refine TrL.fin ?_
                      refine End.nxt ?_
                      refine Tr.cnd rfl ?_ ?_
                      · intro h17
                        replace h17 := of_decide_eq_true h17
                        refine Tr.draw 13 mixed (by kernel_rfl) ?_
                        refine RunD.op (ok_fldO rfl (fun _ => rfl)) rfl rfl ?_
                        refine RunD.op (ok_ldB rfl (fun _ => rfl) rfl) rfl rfl ?_
                        refine RunD.op (ok_move rfl (fun _ => rfl)) rfl rfl ?_
                        first | refine RunD.op (ok_idxN rfl (fun _ => rfl) rfl (fun _ => rfl) rfl (fun _ => by omega)) rfl rfl ?_ | refine RunD.op (ok_idxP rfl (fun _ => rfl) rfl (fun _ => rfl) rfl (fun _ => by omega)) rfl rfl ?_
                        refine RunD.op (ok_ldP rfl (fun _ => rfl) rfl) rfl rfl ?_
                        refine RunD.op (ok_move rfl (fun _ => rfl)) rfl rfl ?_
                        refine RunD.op (ok_fldO rfl (fun _ => rfl)) rfl rfl ?_
                        refine RunD.op (ok_ldB rfl (fun _ => rfl) rfl) rfl rfl ?_
                        refine RunD.op (ok_move rfl (fun _ => rfl)) rfl rfl ?_
                        refine RunD.op (ok_add rfl (fun _ => rfl) rfl (fun _ => rfl) (fun _ => by omega)) rfl rfl ?_
                        first | refine RunD.op (ok_idxN rfl (fun _ => rfl) rfl (fun _ => rfl) rfl (fun _ => by omega)) rfl rfl ?_ | refine RunD.op (ok_idxP rfl (fun _ => rfl) rfl (fun _ => rfl) rfl (fun _ => by omega)) rfl rfl ?_
                        refine RunD.op (ok_ldP rfl (fun _ => rfl) rfl) rfl rfl ?_
                        refine RunD.op (ok_assign rfl (fun _ => rfl)) rfl rfl ?_
                        refine RunD.z ?_
                        refine TrL.op (ok_assign rfl (fun _ => rfl)) rfl rfl ?_
                        refine TrL.fin ?_
                        exact End.cut (()) (by first | rfl | omega | (simp; done) | (simp; omega) | assumption) (Ent.mk (.i rfl (by unfold oth; rw [if_pos (by omega)]) <| .i rfl (by unfold odd; rw [if_pos (by omega)]; exact congrArg (nth c) (by omega)) <| .k rfl rfl <| .k rfl rfl <| .k rfl rfl <| .k rfl rfl <| .k rfl rfl <| .k rfl rfl <| .k rfl rfl <| .k rfl rfl <| .nil) (.k rfl <| .k rfl <| .k rfl <| .nil) rfl)
                      · intro h17
                        replace h17 := of_decide_eq_false h17
                        refine Tr.skip ?_
                        exact End.cut (()) (by first | rfl | omega | (simp; done) | (simp; omega) | assumption) (Ent.mk (.i rfl (by unfold oth; rw [if_neg (by omega)]) <| .i rfl (by unfold odd; rw [if_neg (by omega)]) <| .k rfl rfl <| .k rfl rfl <| .k rfl rfl <| .k rfl rfl <| .k rfl rfl <| .k rfl rfl <| .k rfl rfl <| .k rfl rfl <| .nil) (.k rfl <| .k rfl <| .k rfl <| .nil) rfl)
                    · intro _ hM
                      refine Tr.norm (S' := [⟨12, true, _, _⟩, ⟨13, true, _, _⟩, ⟨1, true, _, _⟩, ⟨2, true, _, _⟩, ⟨6, true, _, _⟩, ⟨7, true, _, _⟩, ⟨8, true, _, _⟩, ⟨9, true, _, _⟩, ⟨10, true, _, _⟩, ⟨11, true, _, _⟩]) (M' := [⟨2, _, _⟩, ⟨16, _, _⟩, ⟨19, _, _⟩]) rfl rfl ?_
                      refine Tr.seq ?_
                      refine Tr.seq ?_
                      refine Tr.rg ?_
                      refine TrL.op (ok_move rfl (fun _ => rfl)) rfl rfl ?_
                      refine TrL.op (ok_move rfl (fun _ => rfl)) rfl rfl ?_
                      refine TrL.op (ok_idxE rfl (fun _ => rfl) rfl (fun _ => rfl) (fun _ => by omega)) rfl rfl ?_
                      refine TrL.op (ok_ldE rfl (fun _ => rfl) rfl rfl rfl) rfl rfl ?_
                      refine TrL.op (ok_move rfl (fun _ => rfl)) rfl rfl ?_
                      refine TrL.gd rfl rfl rfl (ok_move rfl (fun _ => rfl)) rfl rfl ?_
                      refine TrL.gd rfl rfl rfl (ok_move rfl (fun _ => rfl)) rfl rfl ?_
                      refine TrL.gd rfl rfl rfl (ok_idxE rfl id rfl id (fun hp => by simp at hp; omega)) rfl rfl ?_
                      refine TrL.gd rfl rfl rfl (ok_ldE rfl id rfl rfl rfl) rfl rfl ?_
                      refine TrL.gd rfl rfl rfl (ok_not rfl id) rfl rfl ?_
                      refine TrL.op (ok_and rfl (fun _ => rfl) rfl (fun hp h => gdT2 ((fun _ => rfl) hp) h)) rfl rfl ?_
                      refine TrL.fin ?_
                      refine End.nxt ?_
                      refine Tr.cnd rfl ?_ ?_
                      · intro h19
                        try simp only [Bool.and_eq_true, Bool.not_eq_true'] at h19
                        refine Tr.rg ?_
                        refine TrL.op (ok_move rfl (fun _ => rfl)) rfl rfl ?_
                        refine TrL.op (ok_move rfl (fun _ => rfl)) rfl rfl ?_
                        refine TrL.op (ok_move rfl (fun _ => rfl)) rfl rfl ?_
                        refine TrL.op (ok_move rfl (fun _ => rfl)) rfl rfl ?_
                        refine TrL.op (ok_move rfl (fun _ => rfl)) rfl rfl ?_
                        refine TrL.op (ok_move rfl (fun _ => rfl)) rfl rfl ?_
                        refine TrL.op (ok_idxE rfl (fun _ => rfl) rfl (fun _ => rfl) (fun _ => by omega)) rfl rfl ?_
                        refine TrL.op (ok_ldE rfl (fun _ => rfl) rfl rfl rfl) rfl rfl ?_
                        refine TrL.op (ok_move rfl (fun _ => rfl)) rfl rfl ?_
                        refine TrL.op (ok_addW rfl (fun _ => rfl) rfl (fun _ => rfl)) rfl rfl ?_
                        refine TrL.op (ok_idxE rfl (fun _ => rfl) rfl (fun _ => rfl) (fun _ => by omega)) rfl rfl ?_
                        refine TrL.stE rfl rfl rfl rfl rfl ?_
                        refine TrL.op (ok_idxE rfl (fun _ => rfl) rfl (fun _ => rfl) (fun _ => by omega)) rfl rfl ?_
                        refine TrL.stE rfl rfl rfl rfl rfl ?_
                        refine TrL.op (ok_assign rfl (fun _ => rfl)) rfl rfl ?_
                        refine TrL.fin ?_
                        refine End.nxt ?_
                        refine Tr.seq ?_
                        refine Tr.rg ?_
                        refine TrL.op (ok_move rfl (fun _ => rfl)) rfl rfl ?_
                        refine TrL.op (ok_move rfl (fun _ => rfl)) rfl rfl ?_
                        refine TrL.op (ok_idxE rfl (fun _ => rfl) rfl (fun _ => rfl) (fun _ => by omega)) rfl rfl ?_
                        refine TrL.op (ok_ldE rfl (fun _ => rfl) rfl rfl rfl) rfl rfl ?_
                        refine TrL.op (ok_move rfl (fun _ => rfl)) rfl rfl ?_
                        refine TrL.gd rfl rfl rfl (ok_move rfl (fun _ => rfl)) rfl rfl ?_
                        refine TrL.gd rfl rfl rfl (ok_move rfl (fun _ => rfl)) rfl rfl ?_
                        refine TrL.gd rfl rfl rfl (ok_idxE rfl id rfl id (fun hp => by simp at hp; omega)) rfl rfl ?_
                        refine TrL.gd rfl rfl rfl (ok_ldE rfl id rfl rfl rfl) rfl rfl ?_
                        refine TrL.gd rfl rfl rfl (ok_not rfl id) rfl rfl ?_
                        refine TrL.op (ok_and rfl (fun _ => rfl) rfl (fun hp h => gdT2 ((fun _ => rfl) hp) h)) rfl rfl ?_
                        refine TrL.fin ?_
                        refine End.nxt ?_
                        refine Tr.cnd rfl ?_ ?_
                        · intro h21
                          try simp only [Bool.and_eq_true, Bool.not_eq_true'] at h21
                          have hmo := nth_mono (i := (oth o k s).toNat) h19.1
                          rw [hmo] at h21
                          simp at h21
                        · intro h21
                          try simp only [Bool.not_eq_false', Bool.and_eq_false_imp] at h21
                          refine Tr.skip ?_
                          refine End.blk ?_
                          refine End.nxt ?_
                          refine Tr.rg ?_
                          refine TrL.op (ok_move rfl (fun _ => rfl)) rfl rfl ?_
                          refine TrL.op (ok_add rfl (fun _ => rfl) rfl (fun _ => rfl) (fun _ => by omega)) rfl rfl ?_
                          refine TrL.op (ok_assign rfl (fun _ => rfl)) rfl rfl ?_
                          refine TrL.fin ?_
                          exact End.lp ((s + 1, true, K4.set (oth o k s).toNat true, X4.set (oth o k s).toNat (W (nth X4 k + odd o c k s)))) ⟨by omega, hI4.out v (by omega) h19.1 h19.2 rfl, hP4.out v hI4 (by omega) h19.2⟩ (show 2 - (s + 1) < 2 - s by omega) (Ent.mk (.i rfl (by first | rfl | omega | (simp; done) | (simp; omega) | assumption) <| .b rfl (by first | rfl | omega | (simp; done) | (simp; omega) | assumption) <| .k rfl rfl <| .k rfl rfl <| .k rfl rfl <| .k rfl rfl <| .k rfl rfl <| .k rfl rfl <| .nil) (.a (by first | rfl | omega | (simp; done) | (simp; omega) | assumption) (by first | rfl | omega | (simp; done) | (simp; omega) | assumption) <| .a (by first | rfl | omega | (simp; done) | (simp; omega) | assumption) (by first | rfl | omega | (simp; done) | (simp; omega) | assumption) <| .k rfl <| .nil) rfl)
                      · intro h19
                        try simp only [Bool.not_eq_false', Bool.and_eq_false_imp] at h19
                        refine Tr.skip ?_
                        refine End.nxt ?_
                        refine Tr.seq ?_
                        refine Tr.rg ?_
                        refine TrL.op (ok_move rfl (fun _ => rfl)) rfl rfl ?_
                        refine TrL.op (ok_move rfl (fun _ => rfl)) rfl rfl ?_
                        refine TrL.op (ok_idxE rfl (fun _ => rfl) rfl (fun _ => rfl) (fun _ => by omega)) rfl rfl ?_
                        refine TrL.op (ok_ldE rfl (fun _ => rfl) rfl rfl rfl) rfl rfl ?_
                        refine TrL.op (ok_move rfl (fun _ => rfl)) rfl rfl ?_
                        refine TrL.gd rfl rfl rfl (ok_move rfl (fun _ => rfl)) rfl rfl ?_
                        refine TrL.gd rfl rfl rfl (ok_move rfl (fun _ => rfl)) rfl rfl ?_
                        refine TrL.gd rfl rfl rfl (ok_idxE rfl id rfl id (fun hp => by simp at hp; omega)) rfl rfl ?_
                        refine TrL.gd rfl rfl rfl (ok_ldE rfl id rfl rfl rfl) rfl rfl ?_
                        refine TrL.gd rfl rfl rfl (ok_not rfl id) rfl rfl ?_
                        refine TrL.op (ok_and rfl (fun _ => rfl) rfl (fun hp h => gdT2 ((fun _ => rfl) hp) h)) rfl rfl ?_
                        refine TrL.fin ?_
                        refine End.nxt ?_
                        refine Tr.cnd rfl ?_ ?_
                        · intro h21
                          try simp only [Bool.and_eq_true, Bool.not_eq_true'] at h21
                          refine Tr.rg ?_
                          refine TrL.op (ok_move rfl (fun _ => rfl)) rfl rfl ?_
                          refine TrL.op (ok_move rfl (fun _ => rfl)) rfl rfl ?_
                          refine TrL.op (ok_move rfl (fun _ => rfl)) rfl rfl ?_
                          refine TrL.op (ok_move rfl (fun _ => rfl)) rfl rfl ?_
                          refine TrL.op (ok_move rfl (fun _ => rfl)) rfl rfl ?_
                          refine TrL.op (ok_move rfl (fun _ => rfl)) rfl rfl ?_
                          refine TrL.op (ok_idxE rfl (fun _ => rfl) rfl (fun _ => rfl) (fun _ => by omega)) rfl rfl ?_
                          refine TrL.op (ok_ldE rfl (fun _ => rfl) rfl rfl rfl) rfl rfl ?_
                          refine TrL.op (ok_move rfl (fun _ => rfl)) rfl rfl ?_
                          refine TrL.op (ok_subW rfl (fun _ => rfl) rfl (fun _ => rfl)) rfl rfl ?_
                          refine TrL.op (ok_idxE rfl (fun _ => rfl) rfl (fun _ => rfl) (fun _ => by omega)) rfl rfl ?_
                          refine TrL.stE rfl rfl rfl rfl rfl ?_
                          refine TrL.op (ok_idxE rfl (fun _ => rfl) rfl (fun _ => rfl) (fun _ => by omega)) rfl rfl ?_
                          refine TrL.stE rfl rfl rfl rfl rfl ?_
                          refine TrL.op (ok_assign rfl (fun _ => rfl)) rfl rfl ?_
                          refine TrL.fin ?_
                          refine End.blk ?_
                          refine End.nxt ?_
                          refine Tr.rg ?_
                          refine TrL.op (ok_move rfl (fun _ => rfl)) rfl rfl ?_
                          refine TrL.op (ok_add rfl (fun _ => rfl) rfl (fun _ => rfl) (fun _ => by omega)) rfl rfl ?_
                          refine TrL.op (ok_assign rfl (fun _ => rfl)) rfl rfl ?_
                          refine TrL.fin ?_
                          exact End.lp ((s + 1, true, K4.set k true, X4.set k (W (nth X4 (oth o k s).toNat - odd o c k s)))) ⟨by omega, hI4.inn v (by omega) h21.2 h21.1 rfl, hP4.inn hI4 (by omega) h21.2⟩ (show 2 - (s + 1) < 2 - s by omega) (Ent.mk (.i rfl (by first | rfl | omega | (simp; done) | (simp; omega) | assumption) <| .b rfl (by first | rfl | omega | (simp; done) | (simp; omega) | assumption) <| .k rfl rfl <| .k rfl rfl <| .k rfl rfl <| .k rfl rfl <| .k rfl rfl <| .k rfl rfl <| .nil) (.a (by first | rfl | omega | (simp; done) | (simp; omega) | assumption) (by first | rfl | omega | (simp; done) | (simp; omega) | assumption) <| .a (by first | rfl | omega | (simp; done) | (simp; omega) | assumption) (by first | rfl | omega | (simp; done) | (simp; omega) | assumption) <| .k rfl <| .nil) rfl)
                        · intro h21
                          try simp only [Bool.not_eq_false', Bool.and_eq_false_imp] at h21
                          refine Tr.skip ?_
                          refine End.blk ?_
                          refine End.nxt ?_
                          refine Tr.rg ?_
                          refine TrL.op (ok_move rfl (fun _ => rfl)) rfl rfl ?_
                          refine TrL.op (ok_add rfl (fun _ => rfl) rfl (fun _ => rfl) (fun _ => by omega)) rfl rfl ?_
                          refine TrL.op (ok_assign rfl (fun _ => rfl)) rfl rfl ?_
                          refine TrL.fin ?_
                          exact End.lp ((s + 1, ag4, K4, X4)) ⟨by omega, hI4, hP4.stay (by (rw [Bool.eq_iff_iff]; exact ⟨h21, h19⟩))⟩ (show 2 - (s + 1) < 2 - s by omega) (Ent.mk (.i rfl (by first | rfl | omega | (simp; done) | (simp; omega) | assumption) <| .b rfl (by first | rfl | omega | (simp; done) | (simp; omega) | assumption) <| .k rfl rfl <| .k rfl rfl <| .k rfl rfl <| .k rfl rfl <| .k rfl rfl <| .k rfl rfl <| .nil) (.a (by first | rfl | omega | (simp; done) | (simp; omega) | assumption) (by first | rfl | omega | (simp; done) | (simp; omega) | assumption) <| .a (by first | rfl | omega | (simp; done) | (simp; omega) | assumption) (by first | rfl | omega | (simp; done) | (simp; omega) | assumption) <| .k rfl <| .nil) rfl)
                  · intro h14
                    replace h14 := Int.not_lt.1 (of_decide_eq_false h14)
                    refine Tr.exit ?_
                    refine Exs.thn ?_
                    refine Exs.thn ?_
                    refine Exs.here ?_
                    exact End.cut ((s, ag4, K4, X4)) (by (obtain rfl : s = 2 := by omega); exact ⟨hI4, hP4⟩) (Ent.mk (.i rfl (by first | rfl | omega | (simp; done) | (simp; omega) | assumption) <| .b rfl (by first | rfl | omega | (simp; done) | (simp; omega) | assumption) <| .k rfl rfl <| .k rfl rfl <| .k rfl rfl <| .k rfl rfl <| .k rfl rfl <| .k rfl rfl <| .nil) (.a (by first | rfl | omega | (simp; done) | (simp; omega) | assumption) (by first | rfl | omega | (simp; done) | (simp; omega) | assumption) <| .a (by first | rfl | omega | (simp; done) | (simp; omega) | assumption) (by first | rfl | omega | (simp; done) | (simp; omega) | assumption) <| .k rfl <| .nil) rfl)
                · rintro ⟨s, ag4, K4, X4⟩ ⟨hI4, hP4⟩
                  refine End.norm (S' := [⟨11, true, _, _⟩, ⟨9, true, _, _⟩, ⟨1, true, _, _⟩, ⟨2, true, _, _⟩, ⟨6, true, _, _⟩, ⟨7, true, _, _⟩, ⟨8, true, _, _⟩, ⟨10, true, _, _⟩]) (M' := [⟨16, _, _⟩, ⟨19, _, _⟩, ⟨2, _, _⟩]) rfl rfl ?_
                  refine End.blk ?_
                  refine End.nxt ?_
                  refine Tr.rg ?_
                  refine TrL.op (ok_move rfl (fun _ => rfl)) rfl rfl ?_
                  refine TrL.op (ok_add rfl (fun _ => rfl) rfl (fun _ => rfl) (fun _ => by omega)) rfl rfl ?_
                  refine TrL.op (ok_assign rfl (fun _ => rfl)) rfl rfl ?_
                  refine TrL.fin ?_
                  exact End.lp ((k + 1, ag4, K4, X4)) ⟨by omega, hI4, hP4.row⟩ (show o.1.length - (k + 1) < o.1.length - k by omega) (Ent.mk (.i rfl (by first | rfl | omega | (simp; done) | (simp; omega) | assumption) <| .b rfl (by first | rfl | omega | (simp; done) | (simp; omega) | assumption) <| .k rfl rfl <| .k rfl rfl <| .k rfl rfl <| .k rfl rfl <| .k rfl rfl <| .nil) (.a (by first | rfl | omega | (simp; done) | (simp; omega) | assumption) (by first | rfl | omega | (simp; done) | (simp; omega) | assumption) <| .a (by first | rfl | omega | (simp; done) | (simp; omega) | assumption) (by first | rfl | omega | (simp; done) | (simp; omega) | assumption) <| .k rfl <| .nil) rfl)
              · intro h11
                replace h11 := Int.not_lt.1 (of_decide_eq_false h11)
                refine Tr.exit ?_
                refine Exs.thn ?_
                refine Exs.thn ?_
                refine Exs.here ?_
                exact End.cut ((k, ag3, K3, X3)) (by (obtain rfl : k = o.1.length := by omega); exact ⟨hI3, hP3⟩) (Ent.mk (.i rfl (by first | rfl | omega | (simp; done) | (simp; omega) | assumption) <| .b rfl (by first | rfl | omega | (simp; done) | (simp; omega) | assumption) <| .k rfl rfl <| .k rfl rfl <| .k rfl rfl <| .k rfl rfl <| .k rfl rfl <| .nil) (.a (by first | rfl | omega | (simp; done) | (simp; omega) | assumption) (by first | rfl | omega | (simp; done) | (simp; omega) | assumption) <| .a (by first | rfl | omega | (simp; done) | (simp; omega) | assumption) (by first | rfl | omega | (simp; done) | (simp; omega) | assumption) <| .k rfl <| .nil) rfl)
            · rintro ⟨k, ag3, K3, X3⟩ ⟨hI3, hP3⟩
              refine End.norm (S' := [⟨10, true, _, _⟩, ⟨9, true, _, _⟩, ⟨1, true, _, _⟩, ⟨2, true, _, _⟩, ⟨6, true, _, _⟩, ⟨7, true, _, _⟩, ⟨8, true, _, _⟩]) (M' := [⟨16, _, _⟩, ⟨19, _, _⟩, ⟨2, _, _⟩]) rfl rfl ?_
              refine End.blk ?_
              exact End.lp ((ag3, K3, X3)) ⟨hI3, fun e => (by (subst e; have e2 := (hP3.n rfl).1; exact hP3.closed v))⟩ (by (subst h8; exact hP3.mu)) (Ent.mk (.b rfl (by first | rfl | omega | (simp; done) | (simp; omega) | assumption) <| .k rfl rfl <| .k rfl rfl <| .k rfl rfl <| .k rfl rfl <| .k rfl rfl <| .nil) (.a (by first | rfl | omega | (simp; done) | (simp; omega) | assumption) (by first | rfl | omega | (simp; done) | (simp; omega) | assumption) <| .a (by first | rfl | omega | (simp; done) | (simp; omega) | assumption) (by first | rfl | omega | (simp; done) | (simp; omega) | assumption) <| .k rfl <| .nil) rfl)
          · intro h8
            try simp only [decide_eq_true_eq, decide_eq_false_iff_not, Bool.and_eq_true, Bool.or_eq_true, Bool.not_eq_true', Bool.not_eq_false', Bool.and_eq_false_imp, Bool.or_eq_false_iff, Int.not_lt, Int.not_le, ne_eq, Classical.not_not, Nat.not_lt, Nat.not_le] at h8
            refine Tr.exit ?_
            refine Exs.thn ?_
            refine Exs.thn ?_
            refine Exs.here ?_
            exact End.cut ((ag, K2, X2)) ⟨hI2, hC2 h8⟩ (Ent.mk (.b rfl (by first | rfl | omega | (simp; done) | (simp; omega) | assumption) <| .k rfl rfl <| .k rfl rfl <| .k rfl rfl <| .k rfl rfl <| .k rfl rfl <| .nil) (.a (by first | rfl | omega | (simp; done) | (simp; omega) | assumption) (by first | rfl | omega | (simp; done) | (simp; omega) | assumption) <| .a (by first | rfl | omega | (simp; done) | (simp; omega) | assumption) (by first | rfl | omega | (simp; done) | (simp; omega) | assumption) <| .k rfl <| .nil) rfl)
        · rintro ⟨ag, K2, X2⟩ ⟨hI2, hC2⟩
          refine End.norm (S' := [⟨9, true, _, _⟩, ⟨1, true, _, _⟩, ⟨2, true, _, _⟩, ⟨6, true, _, _⟩, ⟨7, true, _, _⟩, ⟨8, true, _, _⟩]) (M' := [⟨16, _, _⟩, ⟨19, _, _⟩, ⟨2, _, _⟩]) rfl rfl ?_
          refine End.blk ?_
          refine End.nxt ?_
          refine Tr.rg ?_
          refine TrL.op (ok_move rfl (fun _ => rfl)) rfl rfl ?_
          refine TrL.op (ok_add rfl (fun _ => rfl) rfl (fun _ => rfl) (fun _ => by omega)) rfl rfl ?_
          refine TrL.op (ok_assign rfl (fun _ => rfl)) rfl rfl ?_
          refine TrL.fin ?_
          exact End.lp ((i + 1, K2, X2)) ⟨by omega, hI2, hC2⟩ (show o.1.length - (i + 1) < o.1.length - i by omega) (Ent.mk (.i rfl (by first | rfl | omega | (simp; done) | (simp; omega) | assumption) <| .k rfl rfl <| .k rfl rfl <| .k rfl rfl <| .k rfl rfl <| .nil) (.a (by first | rfl | omega | (simp; done) | (simp; omega) | assumption) (by first | rfl | omega | (simp; done) | (simp; omega) | assumption) <| .a (by first | rfl | omega | (simp; done) | (simp; omega) | assumption) (by first | rfl | omega | (simp; done) | (simp; omega) | assumption) <| .k rfl <| .nil) rfl)
    · intro h3
      replace h3 := Int.not_lt.1 (of_decide_eq_false h3)
      refine Tr.exit ?_
      refine Exs.thn ?_
      refine Exs.thn ?_
      refine Exs.here ?_
      exact End.cut ((i, K, X)) (by (obtain rfl : i = o.1.length := by omega); exact hI) (Ent.mk (.i rfl (by first | rfl | omega | (simp; done) | (simp; omega) | assumption) <| .k rfl rfl <| .k rfl rfl <| .k rfl rfl <| .k rfl rfl <| .nil) (.a (by first | rfl | omega | (simp; done) | (simp; omega) | assumption) (by first | rfl | omega | (simp; done) | (simp; omega) | assumption) <| .a (by first | rfl | omega | (simp; done) | (simp; omega) | assumption) (by first | rfl | omega | (simp; done) | (simp; omega) | assumption) <| .k rfl <| .nil) rfl)
  · rintro ⟨i, K, X⟩ hE0
    refine End.norm (S' := [⟨8, true, _, _⟩, ⟨1, true, _, _⟩, ⟨2, true, _, _⟩, ⟨6, true, _, _⟩, ⟨7, true, _, _⟩]) (M' := [⟨16, _, _⟩, ⟨19, _, _⟩, ⟨2, _, _⟩]) rfl rfl ?_
    have hb := bd_of v hc hE0.all
    have hxl := hE0.xl
    refine End.nxt ?_
    refine Tr.seq ?_
    refine Tr.seq ?_
    refine Tr.rg ?_
    refine TrL.op (ok_ldBS rfl (fun _ => rfl)) rfl rfl ?_
    refine TrL.op (ok_move rfl (fun _ => rfl)) rfl rfl ?_
    refine TrL.frz 16 [6, 115] ⟨rfl, rfl, trivial⟩ (by simp only [lenMax]; omega) rfl ?_
    refine TrL.norm (S' := [⟨_, _, _, _⟩, ⟨_, _, _, _⟩, ⟨_, _, _, _⟩, ⟨_, _, _, _⟩, ⟨_, _, _, _⟩, ⟨_, _, _, _⟩, ⟨_, _, _, _⟩, ⟨_, _, _, _⟩, ⟨_, _, _, _⟩]) rfl rfl ?_
    refine TrL.op (ok_call (fun hp => ct_rSum _ X v hxl) (.s rfl (fun _ => rfl) rfl <| .a rfl (fun _ => rfl) <| .nil)) rfl rfl ?_
    refine TrL.op (ok_move rfl (fun _ => rfl)) rfl rfl ?_
    refine TrL.op (ok_call (fun hp => ct_Ints _ _) (.a rfl (fun _ => rfl) <| .a rfl (fun _ => rfl) <| .nil)) rfl rfl ?_
    refine TrL.op (ok_not rfl (fun _ => rfl)) rfl rfl ?_
    refine TrL.fin ?_
    refine End.nxt ?_
    refine Tr.cnd rfl ?_ ?_
    · intro h23
      try simp only [decide_eq_false_iff_not, Bool.not_eq_true'] at h23
      have hB : bdB o c = false := by (rw [← hb.1]; exact decide_eq_false h23)
      refine Tr.seq ?_
      refine Tr.rg ?_
      refine TrL.op (ok_assign rfl (fun _ => rfl)) rfl rfl ?_
      refine TrL.op (ok_assign rfl (fun _ => rfl)) rfl rfl ?_
      refine TrL.fin ?_
      refine End.nxt ?_
      refine Tr.ret ?_
      refine Rts.thn ?_
      exact Rts.res (fn := Tryd.f39) (ts := [4, 5]) rfl rfl (.n rfl (by rw [hB]; rfl) <| .b rfl hB.symm <| .nil)
    · intro h23
      try simp only [decide_eq_true_eq, Bool.not_eq_false'] at h23
      have hB : bdB o c = true := by (rw [← hb.1]; exact decide_eq_true h23)
      refine Tr.skip ?_
      refine End.nxt ?_
      refine Tr.seq ?_
      refine Tr.rg ?_
      refine TrL.op (ok_move rfl (fun _ => rfl)) rfl rfl ?_
      refine TrL.op (ok_assign rfl (fun _ => rfl)) rfl rfl ?_
      refine TrL.op (ok_assign rfl (fun _ => rfl)) rfl rfl ?_
      refine TrL.fin ?_
      refine End.nxt ?_
      refine Tr.ret ?_
      exact Rts.res (fn := Tryd.f39) (ts := [4, 5]) rfl rfl (.r rfl (by rw [if_pos hB]; exact hb.2 hB) <| .b rfl hB.symm <| .nil)

end Go.Fl
