/- THE LAW HomologyForm HOLDS FOR EVERY INPUT: whatever the arguments, the call returns true, and each argument reads behind it as before. Conditions: those of the given row (its listed variables as the program lays them). -/
import Derived.Test.YtjknpblmpcecjaaDoorM4
import Derived.ProofKit
import Derived.LaidMore
import Derived.OpenShut
import Derived.Lay
import Derived.LaidOnce
import Derived.SevenTiedAt
import Derived.Stop.Joined
import Derived.Test.YtjknpblmpcecjaaDoorTie
import Derived.Test.YtjknpblmpcecjaaDoorCards
import Derived.Test.YtjknpblmpcecjaaDoorRows

/- The law of the form. -/
namespace Go.Fl
open Go Go.Proofs

abbrev PairT := List Int × List Int × Int
def ePair : Enc PairT := eC (fun v : PairT => (v.1, v.2.1, v.2.2, ())) (eP (eL eI) (eP (eL eI) (eP eI eU)))
instance {v : PairT} : CellsK (kRd ePair v) [kRd (eL eI) (v.1), kRd (eL eI) (v.2.1), kI (v.2.2)] := inferInstanceAs (CellsK (kRd (eC (fun v : PairT => (v.1, v.2.1, v.2.2, ())) (eP (eL eI) (eP (eL eI) (eP eI eU)))) v) _)
instance {v : PairT} {tl : List Know} : EncCells ePair v tl (kRd (eL eI) (v.1) :: kRd (eL eI) (v.2.1) :: kI (v.2.2) :: tl) := inferInstanceAs (EncCells (eC (fun v : PairT => (v.1, v.2.1, v.2.2, ())) (eP (eL eI) (eP (eL eI) (eP eI eU)))) v tl _)
instance {v : PairT} : Norm ePair v (kRd ePair v) := ⟨fun h => h⟩
instance {v : PairT} : FieldP ePair v 0 (eL eI) (v.1) 0 := inferInstanceAs (FieldP (eC (fun v : PairT => (v.1, v.2.1, v.2.2, ())) (eP (eL eI) (eP (eL eI) (eP eI eU)))) v 0 _ _ _)
instance {v : PairT} : FieldP ePair v 1 (eL eI) (v.2.1) 1 := inferInstanceAs (FieldP (eC (fun v : PairT => (v.1, v.2.1, v.2.2, ())) (eP (eL eI) (eP (eL eI) (eP eI eU)))) v 1 _ _ _)
instance {v : PairT} : FieldP ePair v 2 eI (v.2.2) 2 := inferInstanceAs (FieldP (eC (fun v : PairT => (v.1, v.2.1, v.2.2, ())) (eP (eL eI) (eP (eL eI) (eP eI eU)))) v 2 _ _ _)

/-- A list of which the first i elements are new. -/
def updTo (xs : List Int) (F : Nat → Int) (i : Nat) : List Int := tab xs.length (fun j => if j < i then F j else nth xs j)
theorem updTo_len {xs : List Int} {F : Nat → Int} {i : Nat} : (updTo xs F i).length = xs.length := tab_len
theorem updTo_zero {xs : List Int} {F : Nat → Int} : xs = updTo xs F 0 := by
  refine ext_nth updTo_len.symm fun i hi => ?_
  unfold updTo; rw [nth_tab hi, if_neg (by omega)]
theorem nth_updTo {xs : List Int} {F : Nat → Int} {i j : Nat} (h : j < xs.length) : nth (updTo xs F i) j = if j < i then F j else nth xs j := nth_tab h
theorem updTo_succ {xs : List Int} {F : Nat → Int} {i : Nat} : (updTo xs F i).set i (F i) = updTo xs F (i + 1) := by
  unfold updTo
  rw [tab_set]
  refine tab_congr fun j _ => ?_
  by_cases h : j = i
  · rw [if_pos h, if_pos (by omega), h]
  · rw [if_neg h]
    by_cases h2 : j < i
    · rw [if_pos h2, if_pos (by omega)]
    · rw [if_neg h2, if_neg (by omega)]
theorem updTo_at {xs : List Int} {F : Nat → Int} {i : Nat} (h : i < xs.length) : nth (updTo xs F (i + 1)) i = F i := by rw [nth_updTo h, if_pos (by omega)]
theorem ct_hSquareG (o : Ori) (i : Int) (v : Valid o) (h0 : 0 ≤ i) (h1 : i < o.1.length) : Ct Tryd.prog 23 [kRd eO o, kI i] (kTup [kRd (eL eI) (sqL o i), kI 0]) := by
  have := ct_hSquare o i
  have e : sqE o i = 0 := by unfold sqE; rw [orE_r (chkO_of v), if_pos ⟨h0, h1⟩]
  rwa [if_pos e, e] at this
theorem sqL_bnd {o : Ori} {q : Int} (i : Nat) : -2 ≤ nth (sqL o q) i ∧ nth (sqL o q) i ≤ 2 := by
  unfold sqL
  by_cases h : i < 2 * o.1.length
  · rw [nth_tab h]
    have : -2 ≤ sqI o q i ∧ sqI o q i ≤ 2 := by unfold sqI; (repeat' split) <;> omega
    rw [W_in (by omega) (by omega)]; exact this
  · (have e : nth (tab (2 * o.1.length) (fun j => W (sqI o q j))) i = 0 := (by unfold nth; rw [List.getD_eq_getElem?_getD, List.getElem?_eq_none (by rw [tab_len]; omega)]; rfl)); rw [e]; decide
theorem orE00 : orE 0 0 = 0 := orE_r rfl
theorem nth_out {xs : List Int} {i : Nat} (h : xs.length ≤ i) : nth xs i = 0 := by
  unfold nth; rw [List.getD_eq_getElem?_getD, List.getElem?_eq_none h]; rfl
theorem form_law {o : Ori} (v : Valid o) {A B C D : List Int} {k q : Int} (cA : Cyc o A) (cB : Cyc o B) (hq : Sq o.1.length q) (lC : C.length = 2 * o.1.length) (lD : D.length = 2 * o.1.length)
    (hC : ∀ i, i < 2 * o.1.length → nth C i = nth A i + k * nth (sqL o q) i) (hD : ∀ i, i < 2 * o.1.length → nth D i = nth B i + nth C i)
    (rC : ∀ i, i < 2 * o.1.length → -1000000 ≤ nth C i ∧ nth C i ≤ 1000000) (rD : ∀ i, i < 2 * o.1.length → -1000000 ≤ nth D i ∧ nth D i ≤ 1000000) :
    Cyc o C ∧ Cyc o D ∧ Cyc o (sqL o q) ∧ isI o B A = -isI o A B ∧ isI o C B = isI o A B ∧ isI o A D = isI o A B ∧ isI o (sqL o q) B = 0 := by
  have out : ∀ {X : List Int}, X.length = 2 * o.1.length → (∀ i, i < 2 * o.1.length → -1000000 ≤ nth X i ∧ nth X i ≤ 1000000) → ∀ i, -1000000 ≤ nth X i ∧ nth X i ≤ 1000000 := fun hl h i => by
    by_cases hi : i < 2 * o.1.length
    · exact h i hi
    · rw [nth_out (by omega)]; omega
  have cC : Cyc o C := ⟨lC, out lC rC, fun j hj => by rw [rbS_lin v hC, rbS_sq v hq hj, cA.bnd j hj]; omega⟩
  have hD' : ∀ i, i < 2 * o.1.length → nth D i = nth B i + 1 * nth C i := fun i hi => by rw [hD i hi, Int.one_mul]
  have cD : Cyc o D := ⟨lD, out lD rD, fun j hj => by rw [rbS_lin v hD', cB.bnd j hj, cC.bnd j hj]; rfl⟩
  have cS : Cyc o (sqL o q) := ⟨tab_len, fun i => by have := sqL_bnd (o := o) (q := q) i; omega, fun j hj => rbS_sq v hq hj⟩
  have a1 := isI_anti v cB cA
  have a2 := isI_lin v cB hC
  have a3 := isI_lin v cA hC
  have a4 := isI_lin v cA hD'
  have a5 := isI_anti v cA cD
  rw [isI_sq v cB hq, Int.mul_zero] at a2
  rw [isI_sq v cA hq, Int.mul_zero, isI_self v cA] at a3
  exact ⟨cC, cD, cS, a1, by omega, by omega, isI_sq v cB hq⟩
theorem mul_bnd {k s : Int} (hk : -128 ≤ k ∧ k ≤ 127) (hs : -2 ≤ s ∧ s ≤ 2) : -256 ≤ k * s ∧ k * s ≤ 256 := by
  obtain rfl | rfl | rfl | rfl | rfl : s = -2 ∨ s = -1 ∨ s = 0 ∨ s = 1 ∨ s = 2 := by omega
  all_goals omega

set_option maxRecDepth 100000 in
theorem ct_CopyIntsN (l : List Int) (hn : l.length ≤ 1000000) : CtN Tryd.prog 25 [kRd (eL eI) l] (fun t => kOsl t l.length) (cArr false 3 eI l l.length) := by
  refine CtN.mk Tryd.func25 rfl Tryd.ntmps25 rfl (fun w J => ?_)
  refine Tr.seq ?_
  refine Tr.rg ?_
  refine TrL.op (ok_assign rfl (fun _ => rfl)) rfl rfl ?_
  refine TrL.fin ?_
  refine End.nxt ?_
  refine Tr.seq ?_
  refine Tr.rg ?_
  refine TrL.new (ok_bsl0 eI 3) rfl rfl rfl rfl ?_
  refine TrL.op (ok_move rfl (fun _ => rfl)) rfl rfl ?_
  refine TrL.app rfl rfl rfl rfl rfl rfl rfl rfl (by first | omega | (simp only [List.length_singleton, List.length_cons, List.length_nil]; omega)) (by first | omega | (simp only [List.length_singleton, List.length_cons, List.length_nil]; omega)) ?_
  refine TrL.norm (S' := [⟨_, _, _, _⟩, ⟨_, _, _, _⟩, ⟨_, _, _, _⟩, ⟨_, _, _, _⟩, ⟨_, _, _, _⟩]) rfl rfl ?_
  refine TrL.op (ok_assign rfl (fun _ => rfl)) rfl rfl ?_
  refine TrL.fin ?_
  refine End.nxt ?_
  refine Tr.ret ?_
  exact Rts.resN (fn := Tryd.f25) (u := 3) rfl rfl (arr_res (by first | rfl | omega | (simp; done) | (simp; omega) | assumption) (by first | rfl | omega | (simp; done) | (simp; omega) | assumption)) (osl_res (by first | rfl | omega | (simp; done) | (simp; omega) | assumption)) inferInstance

set_option maxRecDepth 100000 in
theorem ct_HomologyForm (o : Ori) (p : PairT) (k : Int) (hk : -128 ≤ k ∧ k ≤ 127) : Ct Tryd.prog 4 [kRd eO o, kRd ePair p, kInt .i8 k] (kB true) := by
  refine Ct.mk Tryd.func4 rfl Tryd.ntmps4 rfl (fun w J => ?_)
  refine Tr.seq ?_
  refine Tr.rg ?_
  refine TrL.new (ok_box 3 rfl (fun _ => rfl) rfl) rfl rfl rfl rfl ?_
  refine TrL.new (ok_box 4 rfl (fun _ => rfl) rfl) rfl rfl rfl rfl ?_
  refine TrL.op (ok_assign rfl (fun _ => rfl)) rfl rfl ?_
  refine TrL.fin ?_
  refine End.nxt ?_
  refine Tr.seq ?_
  refine Tr.seq ?_
  refine Tr.rg ?_
  refine TrL.op (ok_call (fun hp => ct_awake) (.nil)) rfl rfl ?_
  refine TrL.op (ok_not rfl (fun _ => rfl)) rfl rfl ?_
  refine TrL.fin ?_
  refine End.nxt ?_
  refine Tr.cnd rfl ?_ ?_
  · intro h1
    simp at h1
  · intro h1
    refine Tr.skip ?_
    refine End.nxt ?_
    refine Tr.seq ?_
    refine Tr.seq ?_
    refine Tr.rg ?_
    refine TrL.op (ok_ldBS rfl (fun _ => rfl)) rfl rfl ?_
    refine TrL.op (ok_call (fun hp => ct_Small _) (.s rfl (fun _ => rfl) rfl <| .nil)) rfl rfl ?_
    refine TrL.op (ok_not rfl (fun _ => rfl)) rfl rfl ?_
    refine TrL.op (ok_move rfl (fun _ => rfl)) rfl rfl ?_
    refine TrL.gd rfl rfl rfl (ok_fldO rfl (fun _ => rfl)) rfl rfl ?_
    refine TrL.gd rfl rfl rfl (ok_ldB rfl id rfl) rfl rfl ?_
    refine TrL.gd rfl rfl rfl (ok_call (fun hp => ct_short _) (.a rfl id <| .nil)) rfl rfl ?_
    refine TrL.gd rfl rfl rfl (ok_not rfl id) rfl rfl ?_
    refine TrL.op (ok_or rfl (fun _ => rfl) rfl (fun hp h => gdF2 ((fun _ => rfl) hp) h)) rfl rfl ?_
    refine TrL.op (ok_move rfl (fun _ => rfl)) rfl rfl ?_
    refine TrL.gd rfl rfl rfl (ok_fldO rfl (fun _ => rfl)) rfl rfl ?_
    refine TrL.gd rfl rfl rfl (ok_ldB rfl id rfl) rfl rfl ?_
    refine TrL.gd rfl rfl rfl (ok_call (fun hp => ct_short _) (.a rfl id <| .nil)) rfl rfl ?_
    refine TrL.gd rfl rfl rfl (ok_not rfl id) rfl rfl ?_
    refine TrL.op (ok_or rfl (fun _ => rfl) rfl (fun hp h => gdF2 ((fun _ => rfl) hp) h)) rfl rfl ?_
    refine TrL.op (ok_move rfl (fun _ => rfl)) rfl rfl ?_
    refine TrL.gd rfl rfl rfl (ok_ldBS rfl (fun _ => rfl)) rfl rfl ?_
    refine TrL.gd rfl rfl rfl (ok_fldO rfl (fun _ => rfl)) rfl rfl ?_
    refine TrL.gd rfl rfl rfl (ok_ldB rfl id rfl) rfl rfl ?_
    refine TrL.gd rfl rfl rfl (ok_fldO rfl (fun _ => rfl)) rfl rfl ?_
    refine TrL.gd rfl rfl rfl (ok_ldB rfl id rfl) rfl rfl ?_
    refine TrL.gd rfl rfl rfl (ok_bslJ (eL eI) (fun hp => .consG rfl (id hp) <| .consG rfl (id hp) <| .nil) rfl rfl rfl rfl) rfl rfl ?_
    refine TrL.gd rfl rfl rfl (ok_call (fun hp => ct_lcycles _ _) (.s rfl id rfl <| .a rfl id <| .nil)) rfl rfl ?_
    refine TrL.gd rfl rfl rfl (ok_neq rfl id rfl (fun _ => rfl)) rfl rfl ?_
    refine TrL.op (ok_or rfl (fun _ => rfl) rfl (fun hp h => gdF2 ((fun _ => rfl) hp) h)) rfl rfl ?_
    refine TrL.fin ?_
    refine End.nxt ?_
    refine Tr.cnd rfl ?_ ?_
    · intro h3
      try simp only [decide_eq_true_eq, decide_eq_false_iff_not, Bool.or_eq_true, Bool.not_eq_true', ne_eq, Nat.not_le] at h3
      refine Tr.seq ?_
      refine Tr.rg ?_
      refine TrL.op (ok_assign rfl (fun _ => rfl)) rfl rfl ?_
      refine TrL.fin ?_
      refine End.nxt ?_
      refine Tr.ret ?_
      refine Rts.thn ?_
      exact Rts.res1 (fn := Tryd.f4) rfl (.b rfl (by rfl) <| .nil)
    · intro h3
      try simp only [decide_eq_true_eq, decide_eq_false_iff_not, Bool.not_eq_false', Bool.or_eq_false_iff, ne_eq, Classical.not_not] at h3
      rw [chk2] at h3
      obtain ⟨⟨⟨hsm, hA20⟩, hB20⟩, hz⟩ := h3
      have v : Valid o := valid_of (orE_zero.1 hz).1
      have cA := (chkZ_cyc v).1 (orE_zero.1 (orE_zero.1 hz).2).1
      have cB := (chkZ_cyc v).1 (orE_zero.1 (orE_zero.1 hz).2).2
      have lA := cA.len
      have lB := cB.len
      have hv0 := v.pos
      have hv2 := v.le
      have lS : (sqL o (p.2.2 % (o.1.length : Int))).length = 2 * o.1.length := tab_len
      refine Tr.skip ?_
      refine End.nxt ?_
      refine Tr.seq ?_
      refine Tr.draw 12 mixed (by kernel_rfl) ?_
      refine RunD.op (ok_ldBS rfl (fun _ => rfl)) rfl rfl ?_
      refine RunD.op (ok_fldO rfl (fun _ => rfl)) rfl rfl ?_
      refine RunD.op (ok_ldB rfl (fun _ => rfl) rfl) rfl rfl ?_
      refine RunD.op (ok_fldO rfl (fun _ => rfl)) rfl rfl ?_
      refine RunD.op (ok_ldB rfl (fun _ => rfl) rfl) rfl rfl ?_
      refine RunD.op (ok_lenJ rfl (fun _ => rfl)) rfl rfl ?_
      refine RunD.op (ok_call (fun hp => ct_Mod _ _ (by omega) (by omega)) (.a rfl (fun _ => rfl) <| .a rfl (fun _ => rfl) <| .nil)) rfl rfl ?_
      refine RunD.op (ok_call (fun hp => ct_hSquareG _ _ v (Int.emod_nonneg _ (by omega)) (Int.emod_lt_of_pos _ (by omega))) (.s rfl (fun _ => rfl) rfl <| .a rfl (fun _ => rfl) <| .nil)) rfl rfl ?_
      refine RunD.op (ok_move rfl (fun _ => rfl)) rfl rfl ?_
      refine RunD.op (ok_ext rfl (fun _ => rfl) rfl) rfl rfl ?_
      refine RunD.op (ok_ext rfl (fun _ => rfl) rfl) rfl rfl ?_
      refine RunD.op (ok_assign rfl (fun _ => rfl)) rfl rfl ?_
      refine RunD.z ?_
      refine TrL.op (ok_assign rfl (fun _ => rfl)) rfl rfl ?_
      refine TrL.fin ?_
      refine End.nxt ?_
      refine Tr.seq ?_
      refine Tr.seq ?_
      refine Tr.rg ?_
      refine TrL.op (ok_move rfl (fun _ => rfl)) rfl rfl ?_
      refine TrL.op (ok_neq rfl (fun _ => rfl) rfl (fun _ => rfl)) rfl rfl ?_
      refine TrL.op (ok_move rfl (fun _ => rfl)) rfl rfl ?_
      refine TrL.gd rfl rfl rfl (ok_move rfl (fun _ => rfl)) rfl rfl ?_
      refine TrL.gd rfl rfl rfl (ok_lenJ rfl id) rfl rfl ?_
      refine TrL.gd rfl rfl rfl (ok_fldO rfl (fun _ => rfl)) rfl rfl ?_
      refine TrL.gd rfl rfl rfl (ok_ldB rfl id rfl) rfl rfl ?_
      refine TrL.gd rfl rfl rfl (ok_lenJ rfl id) rfl rfl ?_
      refine TrL.gd rfl rfl rfl (ok_neq rfl id rfl id) rfl rfl ?_
      refine TrL.op (ok_or rfl (fun _ => rfl) rfl (fun hp h => gdF2 ((fun _ => rfl) hp) h)) rfl rfl ?_
      refine TrL.fin ?_
      refine End.nxt ?_
      refine Tr.cnd rfl ?_ ?_
      · intro h6
        try simp only [decide_eq_true_eq, Bool.or_eq_true, ne_eq] at h6
        simp at h6
        omega
      · intro h6
        try simp only [decide_eq_false_iff_not, Bool.or_eq_false_iff, ne_eq, Classical.not_not] at h6
        refine Tr.skip ?_
        refine End.nxt ?_
        refine Tr.seq ?_
        refine Tr.draw 5 mixed (by kernel_rfl) ?_
        refine RunD.op (ok_fldO rfl (fun _ => rfl)) rfl rfl ?_
        refine RunD.op (ok_ldB rfl (fun _ => rfl) rfl) rfl rfl ?_
        refine RunD.new (ok_callN 71 (fun hp => ct_CopyIntsN _ (by omega)) (.a rfl (fun _ => rfl) <| .nil)) rfl rfl rfl rfl ?_
        refine RunD.op (ok_fldO rfl (fun _ => rfl)) rfl rfl ?_
        refine RunD.op (ok_ldB rfl (fun _ => rfl) rfl) rfl rfl ?_
        refine RunD.z ?_
        refine TrL.new (ok_callN 74 (fun hp => ct_CopyIntsN _ (by omega)) (.a rfl (fun _ => rfl) <| .nil)) rfl rfl rfl rfl ?_
        refine TrL.op (ok_assign rfl (fun _ => rfl)) rfl rfl ?_
        refine TrL.op (ok_assign rfl (fun _ => rfl)) rfl rfl ?_
        refine TrL.fin ?_
        refine End.nxt ?_
        refine Tr.seq ?_
        refine Tr.seq ?_
        refine Tr.rg ?_
        refine TrL.op (ok_assign rfl (fun _ => rfl)) rfl rfl ?_
        refine TrL.fin ?_
        refine End.nxt ?_
        refine Tr.for1 (σ := Nat) [⟨2, true, _, _⟩, ⟨3, true, _, _⟩, ⟨4, true, _, _⟩, ⟨7, true, _, _⟩, ⟨9, true, _, _⟩, ⟨10, true, _, _⟩] [⟨3, _, _⟩, ⟨4, _, _⟩] (fun i => [⟨11, true, [], kI (i : Int)⟩]) (fun i => [⟨71, [], cArr false 3 eI (updTo p.1 (fun j => nth p.1 j + k * nth (sqL o (p.2.2 % (o.1.length : Int))) j) i) p.1.length⟩, ⟨74, [], cArr false 3 eI (updTo p.2.1 (fun j => nth p.2.1 j + (nth p.1 j + k * nth (sqL o (p.2.2 % (o.1.length : Int))) j)) i) p.2.1.length⟩]) (fun i => i ≤ p.1.length ∧ ∀ j, j < i → (-1000000 ≤ (fun j => nth p.1 j + k * nth (sqL o (p.2.2 % (o.1.length : Int))) j) j ∧ (fun j => nth p.1 j + k * nth (sqL o (p.2.2 % (o.1.length : Int))) j) j ≤ 1000000) ∧ -1000000 ≤ (fun j => nth p.2.1 j + (nth p.1 j + k * nth (sqL o (p.2.2 % (o.1.length : Int))) j)) j ∧ (fun j => nth p.2.1 j + (nth p.1 j + k * nth (sqL o (p.2.2 % (o.1.length : Int))) j)) j ≤ 1000000) (fun i => i = p.1.length ∧ ∀ j, j < i → (-1000000 ≤ (fun j => nth p.1 j + k * nth (sqL o (p.2.2 % (o.1.length : Int))) j) j ∧ (fun j => nth p.1 j + k * nth (sqL o (p.2.2 % (o.1.length : Int))) j) j ≤ 1000000) ∧ -1000000 ≤ (fun j => nth p.2.1 j + (nth p.1 j + k * nth (sqL o (p.2.2 % (o.1.length : Int))) j)) j ∧ (fun j => nth p.2.1 j + (nth p.1 j + k * nth (sqL o (p.2.2 % (o.1.length : Int))) j)) j ≤ 1000000) (fun i => p.1.length - i) (0) ⟨Nat.zero_le _, by simp⟩ (Ent.mk (.i rfl (by first | rfl | omega | (simp; done) | (simp; omega) | assumption) <| .k rfl rfl <| .k rfl rfl <| .k rfl rfl <| .k rfl rfl <| .k rfl rfl <| .k rfl rfl <| .nil) (.a updTo_zero (by first | rfl | omega | (simp; done) | (simp; omega) | assumption) <| .a updTo_zero (by first | rfl | omega | (simp; done) | (simp; omega) | assumption) <| .k rfl <| .k rfl <| .nil) rfl) ?_ ?_
        · rintro i ⟨hk0, hR0⟩
          refine Tr.norm (S' := [⟨11, true, _, _⟩, ⟨2, true, _, _⟩, ⟨3, true, _, _⟩, ⟨4, true, _, _⟩, ⟨7, true, _, _⟩, ⟨9, true, _, _⟩, ⟨10, true, _, _⟩]) (M' := [⟨71, _, _⟩, ⟨74, _, _⟩, ⟨3, _, _⟩, ⟨4, _, _⟩]) rfl rfl ?_
          have hs := sqL_bnd (o := o) (q := p.2.2 % (o.1.length : Int)) i
          have hks := mul_bnd hk hs
          have hAi := cA.rng i
          have hBi := cB.rng i
          refine Tr.seq ?_
          refine Tr.seq ?_
          refine Tr.rg ?_
          refine TrL.op (ok_move rfl (fun _ => rfl)) rfl rfl ?_
          refine TrL.op (ok_move rfl (fun _ => rfl)) rfl rfl ?_
          refine TrL.op (ok_lenO rfl (fun _ => rfl)) rfl rfl ?_
          refine TrL.op (ok_lss rfl (fun _ => rfl) rfl (fun _ => rfl)) rfl rfl ?_
          refine TrL.fin ?_
          refine End.nxt ?_
          refine Tr.cnd rfl ?_ ?_
          · intro h10
            replace h10 := of_decide_eq_true h10
            refine Tr.skip ?_
            refine End.nxt ?_
            refine Tr.seq ?_
            refine Tr.blk ?_
            refine Tr.seq ?_
            refine Tr.draw 14 mixed (by kernel_rfl) ?_
            have eA : nth (updTo p.1 (fun j => nth p.1 j + k * nth (sqL o (p.2.2 % (o.1.length : Int))) j) i) i = nth p.1 i := by rw [nth_updTo (by omega), if_neg (by omega)]
            have eS : ((updTo p.1 (fun j => nth p.1 j + k * nth (sqL o (p.2.2 % (o.1.length : Int))) j) i).set i (nth (updTo p.1 (fun j => nth p.1 j + k * nth (sqL o (p.2.2 % (o.1.length : Int))) j) i) i + k * nth (sqL o (p.2.2 % (o.1.length : Int))) i)) = updTo p.1 (fun j => nth p.1 j + k * nth (sqL o (p.2.2 % (o.1.length : Int))) j) (i + 1) := by rw [eA]; exact updTo_succ
            have eT : nth ((updTo p.1 (fun j => nth p.1 j + k * nth (sqL o (p.2.2 % (o.1.length : Int))) j) i).set i (nth (updTo p.1 (fun j => nth p.1 j + k * nth (sqL o (p.2.2 % (o.1.length : Int))) j) i) i + k * nth (sqL o (p.2.2 % (o.1.length : Int))) i)) i = nth p.1 i + k * nth (sqL o (p.2.2 % (o.1.length : Int))) i := by rw [eS]; exact updTo_at (by omega)
            have eS2 : ((updTo p.2.1 (fun j => nth p.2.1 j + (nth p.1 j + k * nth (sqL o (p.2.2 % (o.1.length : Int))) j)) i).set i (nth p.2.1 i + nth ((updTo p.1 (fun j => nth p.1 j + k * nth (sqL o (p.2.2 % (o.1.length : Int))) j) i).set i (nth (updTo p.1 (fun j => nth p.1 j + k * nth (sqL o (p.2.2 % (o.1.length : Int))) j) i) i + k * nth (sqL o (p.2.2 % (o.1.length : Int))) i)) i)) = updTo p.2.1 (fun j => nth p.2.1 j + (nth p.1 j + k * nth (sqL o (p.2.2 % (o.1.length : Int))) j)) (i + 1) := by rw [eT]; exact updTo_succ
            have eT2 : nth ((updTo p.2.1 (fun j => nth p.2.1 j + (nth p.1 j + k * nth (sqL o (p.2.2 % (o.1.length : Int))) j)) i).set i (nth p.2.1 i + nth ((updTo p.1 (fun j => nth p.1 j + k * nth (sqL o (p.2.2 % (o.1.length : Int))) j) i).set i (nth (updTo p.1 (fun j => nth p.1 j + k * nth (sqL o (p.2.2 % (o.1.length : Int))) j) i) i + k * nth (sqL o (p.2.2 % (o.1.length : Int))) i)) i)) i = nth p.2.1 i + (nth p.1 i + k * nth (sqL o (p.2.2 % (o.1.length : Int))) i) := by rw [eS2]; exact updTo_at (by omega)
            refine RunD.op (ok_move rfl (fun _ => rfl)) rfl rfl ?_
            refine RunD.op (ok_move rfl (fun _ => rfl)) rfl rfl ?_
            refine RunD.op (ok_move rfl (fun _ => rfl)) rfl rfl ?_
            refine RunD.op (ok_move rfl (fun _ => rfl)) rfl rfl ?_
            first | refine RunD.op (ok_idxEN rfl (fun _ => rfl) rfl (fun _ => rfl) (fun _ => by omega)) rfl rfl ?_ | refine RunD.op (ok_idxE rfl (fun _ => rfl) rfl (fun _ => rfl) (fun _ => by omega)) rfl rfl ?_
            refine RunD.op (ok_ldE rfl (fun _ => rfl) rfl rfl rfl) rfl rfl ?_
            refine RunD.op (ok_move rfl (fun _ => rfl)) rfl rfl ?_
            refine RunD.op (ok_convI rfl (fun _ => rfl) (fun _ => by omega)) rfl rfl ?_
            refine RunD.op (ok_move rfl (fun _ => rfl)) rfl rfl ?_
            refine RunD.op (ok_move rfl (fun _ => rfl)) rfl rfl ?_
            first | refine RunD.op (ok_idxN rfl (fun _ => rfl) rfl (fun _ => rfl) rfl (fun _ => by omega)) rfl rfl ?_ | refine RunD.op (ok_idxP rfl (fun _ => rfl) rfl (fun _ => rfl) rfl (fun _ => by omega)) rfl rfl ?_
            refine RunD.op (ok_ldP rfl (fun _ => rfl) rfl) rfl rfl ?_
            refine RunD.op (ok_mul rfl (fun _ => rfl) rfl (fun _ => rfl) (fun _ => by omega)) rfl rfl ?_
            refine RunD.op (ok_add rfl (fun _ => rfl) rfl (fun _ => rfl) (fun _ => by omega)) rfl rfl ?_
            refine RunD.z ?_
            first | refine TrL.op (ok_idxEN rfl (fun _ => rfl) rfl (fun _ => rfl) (fun _ => by omega)) rfl rfl ?_ | refine TrL.op (ok_idxE rfl (fun _ => rfl) rfl (fun _ => rfl) (fun _ => by omega)) rfl rfl ?_
            refine TrL.stE rfl rfl rfl rfl rfl ?_
            refine TrL.fin ?_
            refine End.nxt ?_
            refine Tr.seq ?_
            refine Tr.draw 12 mixed (by kernel_rfl) ?_
            refine RunD.op (ok_move rfl (fun _ => rfl)) rfl rfl ?_
            refine RunD.op (ok_move rfl (fun _ => rfl)) rfl rfl ?_
            refine RunD.op (ok_fldO rfl (fun _ => rfl)) rfl rfl ?_
            refine RunD.op (ok_ldB rfl (fun _ => rfl) rfl) rfl rfl ?_
            refine RunD.op (ok_move rfl (fun _ => rfl)) rfl rfl ?_
            first | refine RunD.op (ok_idxN rfl (fun _ => rfl) rfl (fun _ => rfl) rfl (fun _ => by omega)) rfl rfl ?_ | refine RunD.op (ok_idxP rfl (fun _ => rfl) rfl (fun _ => rfl) rfl (fun _ => by omega)) rfl rfl ?_
            refine RunD.op (ok_ldP rfl (fun _ => rfl) rfl) rfl rfl ?_
            refine RunD.op (ok_move rfl (fun _ => rfl)) rfl rfl ?_
            refine RunD.op (ok_move rfl (fun _ => rfl)) rfl rfl ?_
            first | refine RunD.op (ok_idxEN rfl (fun _ => rfl) rfl (fun _ => rfl) (fun _ => by omega)) rfl rfl ?_ | refine RunD.op (ok_idxE rfl (fun _ => rfl) rfl (fun _ => rfl) (fun _ => by omega)) rfl rfl ?_
            refine RunD.op (ok_ldE rfl (fun _ => rfl) rfl rfl rfl) rfl rfl ?_
            refine RunD.op (ok_add rfl (fun _ => rfl) rfl (fun _ => rfl) (fun _ => by omega)) rfl rfl ?_
            refine RunD.z ?_
            first | refine TrL.op (ok_idxEN rfl (fun _ => rfl) rfl (fun _ => rfl) (fun _ => by omega)) rfl rfl ?_ | refine TrL.op (ok_idxE rfl (fun _ => rfl) rfl (fun _ => rfl) (fun _ => by omega)) rfl rfl ?_
            refine TrL.stE rfl rfl rfl rfl rfl ?_
            refine TrL.fin ?_
            refine End.nxt ?_
            refine Tr.seq ?_
            refine Tr.rg ?_
            refine TrL.op (ok_move rfl (fun _ => rfl)) rfl rfl ?_
            refine TrL.op (ok_move rfl (fun _ => rfl)) rfl rfl ?_
            first | refine TrL.op (ok_idxEN rfl (fun _ => rfl) rfl (fun _ => rfl) (fun _ => by omega)) rfl rfl ?_ | refine TrL.op (ok_idxE rfl (fun _ => rfl) rfl (fun _ => rfl) (fun _ => by omega)) rfl rfl ?_
            refine TrL.op (ok_ldE rfl (fun _ => rfl) rfl rfl rfl) rfl rfl ?_
            refine TrL.op (ok_call (fun hp => ct_Abs _ (by omega)) (.a rfl (fun _ => rfl) <| .nil)) rfl rfl ?_
            refine TrL.op (ok_gtr rfl (fun _ => rfl) rfl (fun _ => rfl)) rfl rfl ?_
            refine TrL.op (ok_move rfl (fun _ => rfl)) rfl rfl ?_
            refine TrL.gd rfl rfl rfl (ok_move rfl (fun _ => rfl)) rfl rfl ?_
            refine TrL.gd rfl rfl rfl (ok_move rfl (fun _ => rfl)) rfl rfl ?_
            first | refine TrL.gd rfl rfl rfl (ok_idxEN rfl id rfl id (fun hp => by simp at hp; omega)) rfl rfl ?_ | refine TrL.gd rfl rfl rfl (ok_idxE rfl id rfl id (fun hp => by simp at hp; omega)) rfl rfl ?_
            refine TrL.gd rfl rfl rfl (ok_ldE rfl id rfl rfl rfl) rfl rfl ?_
            refine TrL.gd rfl rfl rfl (ok_call (fun hp => ct_Abs _ (by omega)) (.a rfl id <| .nil)) rfl rfl ?_
            refine TrL.gd rfl rfl rfl (ok_gtr rfl id rfl (fun _ => rfl)) rfl rfl ?_
            refine TrL.op (ok_or rfl (fun _ => rfl) rfl (fun hp h => gdF2 ((fun _ => rfl) hp) h)) rfl rfl ?_
            refine TrL.fin ?_
            refine End.nxt ?_
            refine Tr.cnd rfl ?_ ?_
            · intro h14
              try simp only [decide_eq_true_eq, Bool.or_eq_true] at h14
              refine Tr.seq ?_
              refine Tr.rg ?_
              refine TrL.op (ok_assign rfl (fun _ => rfl)) rfl rfl ?_
              refine TrL.fin ?_
              refine End.nxt ?_
              refine Tr.ret ?_
              refine Rts.out ?_
              refine Rts.thn ?_
              refine Rts.thn ?_
              refine Rts.out ?_
              refine Rts.thn ?_
              refine Rts.thn ?_
              exact Rts.res1 (fn := Tryd.f4) rfl (.b rfl (by rfl) <| .nil)
            · intro h14
              try simp only [decide_eq_false_iff_not, Bool.or_eq_false_iff, Int.not_lt] at h14
              rw [eT2, eT] at h14
              refine Tr.skip ?_
              refine End.blk ?_
              refine End.nxt ?_
              refine Tr.rg ?_
              refine TrL.op (ok_move rfl (fun _ => rfl)) rfl rfl ?_
              refine TrL.op (ok_add rfl (fun _ => rfl) rfl (fun _ => rfl) (fun _ => by omega)) rfl rfl ?_
              refine TrL.op (ok_assign rfl (fun _ => rfl)) rfl rfl ?_
              refine TrL.fin ?_
              exact End.lp (i + 1) ⟨by omega, all_succ hR0 (by dsimp only; omega)⟩ (by omega) (Ent.mk (.i rfl (by first | rfl | omega | (simp; done) | (simp; omega) | assumption) <| .k rfl rfl <| .k rfl rfl <| .k rfl rfl <| .k rfl rfl <| .k rfl rfl <| .k rfl rfl <| .nil) (.a (by first | rfl | omega | (simp; done) | (simp; omega) | assumption) (by first | rfl | omega | (simp; done) | (simp; omega) | assumption) <| .a (by first | rfl | omega | (simp; done) | (simp; omega) | assumption) (by first | rfl | omega | (simp; done) | (simp; omega) | assumption) <| .k rfl <| .k rfl <| .nil) rfl)
          · intro h10
            replace h10 := Int.not_lt.1 (of_decide_eq_false h10)
            refine Tr.exit ?_
            refine Exs.thn ?_
            refine Exs.thn ?_
            refine Exs.here ?_
            exact End.cut (i) ⟨by omega, hR0⟩ (Ent.mk (.i rfl (by first | rfl | omega | (simp; done) | (simp; omega) | assumption) <| .k rfl rfl <| .k rfl rfl <| .k rfl rfl <| .k rfl rfl <| .k rfl rfl <| .k rfl rfl <| .nil) (.a (by first | rfl | omega | (simp; done) | (simp; omega) | assumption) (by first | rfl | omega | (simp; done) | (simp; omega) | assumption) <| .a (by first | rfl | omega | (simp; done) | (simp; omega) | assumption) (by first | rfl | omega | (simp; done) | (simp; omega) | assumption) <| .k rfl <| .k rfl <| .nil) rfl)
        · rintro i ⟨hE0, hR0⟩
          refine End.norm (S' := [⟨11, true, _, _⟩, ⟨2, true, _, _⟩, ⟨3, true, _, _⟩, ⟨4, true, _, _⟩, ⟨7, true, _, _⟩, ⟨9, true, _, _⟩, ⟨10, true, _, _⟩]) (M' := [⟨71, _, _⟩, ⟨74, _, _⟩, ⟨3, _, _⟩, ⟨4, _, _⟩]) rfl rfl ?_
          have hC : ∀ j, j < 2 * o.1.length → nth (updTo p.1 (fun j => nth p.1 j + k * nth (sqL o (p.2.2 % (o.1.length : Int))) j) i) j = nth p.1 j + k * nth (sqL o (p.2.2 % (o.1.length : Int))) j := fun j hj => by rw [nth_updTo (by omega), if_pos (by omega)]
          have hD : ∀ j, j < 2 * o.1.length → nth (updTo p.2.1 (fun j => nth p.2.1 j + (nth p.1 j + k * nth (sqL o (p.2.2 % (o.1.length : Int))) j)) i) j = nth p.2.1 j + nth (updTo p.1 (fun j => nth p.1 j + k * nth (sqL o (p.2.2 % (o.1.length : Int))) j) i) j := fun j hj => by rw [nth_updTo (by omega), if_pos (by omega), hC j hj]
          obtain ⟨cC, cD, cS, f1, f2, f3, f4⟩ := form_law v cA cB ⟨Int.emod_nonneg _ (by omega), Int.emod_lt_of_pos _ (by omega)⟩ (updTo_len.trans lA) (updTo_len.trans lB) hC hD (fun j hj => by (rw [hC j hj]; exact (hR0 j (by omega)).1)) (fun j hj => by (rw [hD j hj, hC j hj]; exact (hR0 j (by omega)).2))
          have zA := (chkZ_cyc v).2 cA
          have zB := (chkZ_cyc v).2 cB
          have zC := (chkZ_cyc v).2 cC
          have zD := (chkZ_cyc v).2 cD
          have zS := (chkZ_cyc v).2 cS
          have zO := chkO_of v
          refine End.nxt ?_
          refine Tr.seq ?_
          refine Tr.rg ?_
          refine TrL.op (ok_ldBS rfl (fun _ => rfl)) rfl rfl ?_
          refine TrL.op (ok_fldO rfl (fun _ => rfl)) rfl rfl ?_
          refine TrL.op (ok_ldB rfl (fun _ => rfl) rfl) rfl rfl ?_
          refine TrL.op (ok_fldO rfl (fun _ => rfl)) rfl rfl ?_
          refine TrL.op (ok_ldB rfl (fun _ => rfl) rfl) rfl rfl ?_
          refine TrL.op (ok_call (fun hp => ct_hIntersect _ _ _) (.s rfl (fun _ => rfl) rfl <| .a rfl (fun _ => rfl) <| .a rfl (fun _ => rfl) <| .nil)) rfl rfl ?_
          refine TrL.op (ok_move rfl (fun _ => rfl)) rfl rfl ?_
          refine TrL.op (ok_ext rfl (fun _ => rfl) rfl) rfl rfl ?_
          refine TrL.op (ok_ext rfl (fun _ => rfl) rfl) rfl rfl ?_
          refine TrL.op (ok_assign rfl (fun _ => rfl)) rfl rfl ?_
          refine TrL.op (ok_assign rfl (fun _ => rfl)) rfl rfl ?_
          refine TrL.fin ?_
          refine End.nxt ?_
          refine Tr.seq ?_
          refine Tr.rg ?_
          refine TrL.op (ok_ldBS rfl (fun _ => rfl)) rfl rfl ?_
          refine TrL.op (ok_fldO rfl (fun _ => rfl)) rfl rfl ?_
          refine TrL.op (ok_ldB rfl (fun _ => rfl) rfl) rfl rfl ?_
          refine TrL.op (ok_fldO rfl (fun _ => rfl)) rfl rfl ?_
          refine TrL.op (ok_ldB rfl (fun _ => rfl) rfl) rfl rfl ?_
          refine TrL.op (ok_call (fun hp => ct_hIntersect _ _ _) (.s rfl (fun _ => rfl) rfl <| .a rfl (fun _ => rfl) <| .a rfl (fun _ => rfl) <| .nil)) rfl rfl ?_
          refine TrL.op (ok_move rfl (fun _ => rfl)) rfl rfl ?_
          refine TrL.op (ok_ext rfl (fun _ => rfl) rfl) rfl rfl ?_
          refine TrL.op (ok_ext rfl (fun _ => rfl) rfl) rfl rfl ?_
          refine TrL.op (ok_assign rfl (fun _ => rfl)) rfl rfl ?_
          refine TrL.op (ok_assign rfl (fun _ => rfl)) rfl rfl ?_
          refine TrL.fin ?_
          refine End.nxt ?_
          refine Tr.seq ?_
          refine Tr.rg ?_
          refine TrL.op (ok_ldBS rfl (fun _ => rfl)) rfl rfl ?_
          refine TrL.op (ok_move rfl (fun _ => rfl)) rfl rfl ?_
          refine TrL.op (ok_fldO rfl (fun _ => rfl)) rfl rfl ?_
          refine TrL.op (ok_ldB rfl (fun _ => rfl) rfl) rfl rfl ?_
          refine TrL.frz 71 [9, 143] ⟨rfl, rfl, trivial⟩ (by simp only [lenMax]; omega) rfl ?_
          refine TrL.norm (S' := ⟨_, _, _, _⟩ :: ⟨_, _, _, _⟩ :: ⟨_, _, _, _⟩ :: ⟨_, _, _, _⟩ :: ⟨_, _, _, _⟩ :: ⟨_, _, _, _⟩ :: ⟨_, _, _, _⟩ :: ⟨_, _, _, _⟩ :: ⟨_, _, _, _⟩ :: ⟨_, _, _, _⟩ :: ⟨_, _, _, _⟩ :: ⟨_, _, _, _⟩ :: ⟨_, _, _, _⟩ :: ⟨_, _, _, _⟩ :: ⟨_, _, _, _⟩ :: ⟨_, _, _, _⟩ :: ⟨_, _, _, _⟩ :: ⟨_, _, _, _⟩ :: ⟨_, _, _, _⟩ :: ⟨_, _, _, _⟩ :: ⟨_, _, _, _⟩ :: ⟨_, _, _, _⟩ :: ⟨_, _, _, _⟩ :: ⟨_, _, _, _⟩ :: ⟨_, _, _, _⟩ :: ⟨_, _, _, _⟩ :: ⟨_, _, _, _⟩ :: ⟨_, _, _, _⟩ :: ⟨_, _, _, _⟩ :: ⟨_, _, _, _⟩ :: ⟨_, _, _, _⟩ :: ⟨_, _, _, _⟩ :: ⟨_, _, _, _⟩ :: ⟨_, _, _, _⟩ :: ⟨_, _, _, _⟩ :: []) rfl rfl ?_
          refine TrL.op (ok_call (fun hp => ct_hIntersect _ _ _) (.s rfl (fun _ => rfl) rfl <| .a rfl (fun _ => rfl) <| .a rfl (fun _ => rfl) <| .nil)) rfl rfl ?_
          refine TrL.op (ok_move rfl (fun _ => rfl)) rfl rfl ?_
          refine TrL.op (ok_ext rfl (fun _ => rfl) rfl) rfl rfl ?_
          refine TrL.op (ok_ext rfl (fun _ => rfl) rfl) rfl rfl ?_
          refine TrL.op (ok_assign rfl (fun _ => rfl)) rfl rfl ?_
          refine TrL.op (ok_assign rfl (fun _ => rfl)) rfl rfl ?_
          refine TrL.fin ?_
          refine End.nxt ?_
          refine Tr.seq ?_
          refine Tr.rg ?_
          refine TrL.op (ok_ldBS rfl (fun _ => rfl)) rfl rfl ?_
          refine TrL.op (ok_fldO rfl (fun _ => rfl)) rfl rfl ?_
          refine TrL.op (ok_ldB rfl (fun _ => rfl) rfl) rfl rfl ?_
          refine TrL.op (ok_move rfl (fun _ => rfl)) rfl rfl ?_
          refine TrL.frz 74 [10, 153] ⟨rfl, rfl, trivial⟩ (by simp only [lenMax]; omega) rfl ?_
          refine TrL.norm (S' := ⟨_, _, _, _⟩ :: ⟨_, _, _, _⟩ :: ⟨_, _, _, _⟩ :: ⟨_, _, _, _⟩ :: ⟨_, _, _, _⟩ :: ⟨_, _, _, _⟩ :: ⟨_, _, _, _⟩ :: ⟨_, _, _, _⟩ :: ⟨_, _, _, _⟩ :: ⟨_, _, _, _⟩ :: ⟨_, _, _, _⟩ :: ⟨_, _, _, _⟩ :: ⟨_, _, _, _⟩ :: ⟨_, _, _, _⟩ :: ⟨_, _, _, _⟩ :: ⟨_, _, _, _⟩ :: ⟨_, _, _, _⟩ :: ⟨_, _, _, _⟩ :: ⟨_, _, _, _⟩ :: ⟨_, _, _, _⟩ :: ⟨_, _, _, _⟩ :: ⟨_, _, _, _⟩ :: ⟨_, _, _, _⟩ :: ⟨_, _, _, _⟩ :: ⟨_, _, _, _⟩ :: ⟨_, _, _, _⟩ :: ⟨_, _, _, _⟩ :: ⟨_, _, _, _⟩ :: ⟨_, _, _, _⟩ :: ⟨_, _, _, _⟩ :: ⟨_, _, _, _⟩ :: ⟨_, _, _, _⟩ :: ⟨_, _, _, _⟩ :: ⟨_, _, _, _⟩ :: ⟨_, _, _, _⟩ :: ⟨_, _, _, _⟩ :: ⟨_, _, _, _⟩ :: ⟨_, _, _, _⟩ :: ⟨_, _, _, _⟩ :: ⟨_, _, _, _⟩ :: ⟨_, _, _, _⟩ :: ⟨_, _, _, _⟩ :: ⟨_, _, _, _⟩ :: ⟨_, _, _, _⟩ :: ⟨_, _, _, _⟩ :: ⟨_, _, _, _⟩ :: ⟨_, _, _, _⟩ :: []) rfl rfl ?_
          refine TrL.op (ok_call (fun hp => ct_hIntersect _ _ _) (.s rfl (fun _ => rfl) rfl <| .a rfl (fun _ => rfl) <| .a rfl (fun _ => rfl) <| .nil)) rfl rfl ?_
          refine TrL.op (ok_move rfl (fun _ => rfl)) rfl rfl ?_
          refine TrL.op (ok_ext rfl (fun _ => rfl) rfl) rfl rfl ?_
          refine TrL.op (ok_ext rfl (fun _ => rfl) rfl) rfl rfl ?_
          refine TrL.op (ok_assign rfl (fun _ => rfl)) rfl rfl ?_
          refine TrL.op (ok_assign rfl (fun _ => rfl)) rfl rfl ?_
          refine TrL.fin ?_
          refine End.nxt ?_
          refine Tr.seq ?_
          refine Tr.rg ?_
          refine TrL.op (ok_ldBS rfl (fun _ => rfl)) rfl rfl ?_
          refine TrL.op (ok_move rfl (fun _ => rfl)) rfl rfl ?_
          refine TrL.op (ok_fldO rfl (fun _ => rfl)) rfl rfl ?_
          refine TrL.op (ok_ldB rfl (fun _ => rfl) rfl) rfl rfl ?_
          refine TrL.op (ok_call (fun hp => ct_hIntersect _ _ _) (.s rfl (fun _ => rfl) rfl <| .a rfl (fun _ => rfl) <| .a rfl (fun _ => rfl) <| .nil)) rfl rfl ?_
          refine TrL.op (ok_move rfl (fun _ => rfl)) rfl rfl ?_
          refine TrL.op (ok_ext rfl (fun _ => rfl) rfl) rfl rfl ?_
          refine TrL.op (ok_ext rfl (fun _ => rfl) rfl) rfl rfl ?_
          refine TrL.op (ok_assign rfl (fun _ => rfl)) rfl rfl ?_
          refine TrL.op (ok_assign rfl (fun _ => rfl)) rfl rfl ?_
          refine TrL.fin ?_
          refine End.nxt ?_
          refine Tr.seq ?_
          refine Tr.rg ?_
          refine TrL.op (ok_move rfl (fun _ => rfl)) rfl rfl ?_
          refine TrL.op (ok_eql rfl (fun _ => rfl) rfl (fun _ => rfl)) rfl rfl ?_
          refine TrL.op (ok_move rfl (fun _ => rfl)) rfl rfl ?_
          refine TrL.gd rfl rfl rfl (ok_move rfl (fun _ => rfl)) rfl rfl ?_
          refine TrL.gd rfl rfl rfl (ok_eql rfl id rfl (fun _ => rfl)) rfl rfl ?_
          refine TrL.op (ok_and rfl (fun _ => rfl) rfl (fun hp h => gdT2 ((fun _ => rfl) hp) h)) rfl rfl ?_
          refine TrL.op (ok_move rfl (fun _ => rfl)) rfl rfl ?_
          refine TrL.gd rfl rfl rfl (ok_move rfl (fun _ => rfl)) rfl rfl ?_
          refine TrL.gd rfl rfl rfl (ok_eql rfl id rfl (fun _ => rfl)) rfl rfl ?_
          refine TrL.op (ok_and rfl (fun _ => rfl) rfl (fun hp h => gdT2 ((fun _ => rfl) hp) h)) rfl rfl ?_
          refine TrL.op (ok_move rfl (fun _ => rfl)) rfl rfl ?_
          refine TrL.gd rfl rfl rfl (ok_move rfl (fun _ => rfl)) rfl rfl ?_
          refine TrL.gd rfl rfl rfl (ok_eql rfl id rfl (fun _ => rfl)) rfl rfl ?_
          refine TrL.op (ok_and rfl (fun _ => rfl) rfl (fun hp h => gdT2 ((fun _ => rfl) hp) h)) rfl rfl ?_
          refine TrL.op (ok_move rfl (fun _ => rfl)) rfl rfl ?_
          refine TrL.gd rfl rfl rfl (ok_move rfl (fun _ => rfl)) rfl rfl ?_
          refine TrL.gd rfl rfl rfl (ok_eql rfl id rfl (fun _ => rfl)) rfl rfl ?_
          refine TrL.op (ok_and rfl (fun _ => rfl) rfl (fun hp h => gdT2 ((fun _ => rfl) hp) h)) rfl rfl ?_
          refine TrL.op (ok_move rfl (fun _ => rfl)) rfl rfl ?_
          refine TrL.gd rfl rfl rfl (ok_move rfl (fun _ => rfl)) rfl rfl ?_
          refine TrL.gd rfl rfl rfl (ok_move rfl (fun _ => rfl)) rfl rfl ?_
          refine TrL.gd rfl rfl rfl (ok_negW rfl id) rfl rfl ?_
          refine TrL.gd rfl rfl rfl (ok_eql rfl id rfl id) rfl rfl ?_
          refine TrL.op (ok_and rfl (fun _ => rfl) rfl (fun hp h => gdT2 ((fun _ => rfl) hp) h)) rfl rfl ?_
          refine TrL.op (ok_move rfl (fun _ => rfl)) rfl rfl ?_
          refine TrL.gd rfl rfl rfl (ok_move rfl (fun _ => rfl)) rfl rfl ?_
          refine TrL.gd rfl rfl rfl (ok_move rfl (fun _ => rfl)) rfl rfl ?_
          refine TrL.gd rfl rfl rfl (ok_eql rfl id rfl id) rfl rfl ?_
          refine TrL.op (ok_and rfl (fun _ => rfl) rfl (fun hp h => gdT2 ((fun _ => rfl) hp) h)) rfl rfl ?_
          refine TrL.op (ok_move rfl (fun _ => rfl)) rfl rfl ?_
          refine TrL.gd rfl rfl rfl (ok_move rfl (fun _ => rfl)) rfl rfl ?_
          refine TrL.gd rfl rfl rfl (ok_move rfl (fun _ => rfl)) rfl rfl ?_
          refine TrL.gd rfl rfl rfl (ok_eql rfl id rfl id) rfl rfl ?_
          refine TrL.op (ok_and rfl (fun _ => rfl) rfl (fun hp h => gdT2 ((fun _ => rfl) hp) h)) rfl rfl ?_
          refine TrL.op (ok_move rfl (fun _ => rfl)) rfl rfl ?_
          refine TrL.gd rfl rfl rfl (ok_move rfl (fun _ => rfl)) rfl rfl ?_
          refine TrL.gd rfl rfl rfl (ok_eql rfl id rfl (fun _ => rfl)) rfl rfl ?_
          refine TrL.op (ok_and rfl (fun _ => rfl) rfl (fun hp h => gdT2 ((fun _ => rfl) hp) h)) rfl rfl ?_
          refine TrL.op (ok_assign rfl (fun _ => rfl)) rfl rfl ?_
          refine TrL.fin ?_
          refine End.nxt ?_
          refine Tr.ret ?_
          exact Rts.res1 (fn := Tryd.f4) rfl (.b rfl (by simp [zA, zB, zC, zD, zS, zO, f1, f2, f3, f4, orE00, W_zero]; exact (W_neg _).symm) <| .nil)

end Go.Fl

/- From the row's reading of the arguments to ours, and from a contract to the row's last step. -/
namespace Go.Fl
open Go Go.RowKit Go.ChangeShapes Go.WideShapes Go.ChangeAt
/-! ### 1. Arguments -/
def memJ (W : World) : JV := fun b o => W.cell? ⟨b, o, none⟩
theorem memJ_im (W : World) : Im (memJ W) W := fun _ _ _ h => h
/-- What the row reads, in our words; 'φ': what else is known of it. -/
structure RdT (P : Program) (t : TypeId) {α : Type} (e : Enc α) (φ : α → Prop) : Prop where
  imp : ∀ {H : Type} {enc : TypeId × Value → H} {W : World} {n : Nat} {cs : List Value} {x : DataW H × List MemPlace},
  DataW.trod enc P W 0 (fun _ => true) true n t cs = some x → (∀ m ∈ x.1.weights P t, m ≤ reachBytes) → ∃ a, e.rd (memJ W) cs a ∧ φ a
def AndP {α β : Type} (φ : α → Prop) (ψ : β → Prop) : α × β → Prop := fun x => φ x.1 ∧ ψ x.2
def UnitP : Unit → Prop := fun _ => True
def BoolP : Bool → Prop := fun _ => True
def StrP : ByteArray → Prop := fun s => s.size ≤ reachBytes
def ListP {α : Type} [Inhabited α] (φ : α → Prop) : List α → Prop := fun xs => xs.length ≤ reachBytes ∧ ∀ i, i < xs.length → φ (nth xs i)
def okI (k : IntKind) (n : Int) : Prop := (Lit.int k n).wf = true
theorem okI64 {n : Int} (h : okI .i64 n) : -9223372036854775808 ≤ n ∧ n ≤ 9223372036854775807 := by simpa [okI, Lit.wf, IntKind.min, IntKind.max, IntKind.signed, IntKind.bits] using h
theorem okI8 {n : Int} (h : okI .i8 n) : -128 ≤ n ∧ n ≤ 127 := by simpa [okI, Lit.wf, IntKind.min, IntKind.max, IntKind.signed, IntKind.bits] using h
theorem okU8 {n : Int} (h : okI .u8 n) : 0 ≤ n ∧ n ≤ 255 := by simpa [okI, Lit.wf, IntKind.min, IntKind.max, IntKind.signed, IntKind.bits] using h
theorem RdT.int {P : Program} {t : TypeId} {k : IntKind} [h : TyKind P t k] : RdT P t (eInt k) (okI k) := ⟨fun hx _ => by
  obtain ⟨n, rfl, rfl, hw⟩ := DataW.trod_int h.h hx
  exact ⟨n, rfl, hw⟩⟩
theorem RdT.bool {P : Program} {t : TypeId} [h : TyBool P t] : RdT P t eBool BoolP := ⟨fun hx _ => by
  obtain ⟨n, rfl, rfl⟩ := DataW.trod_bool h.h hx
  exact ⟨n, rfl, trivial⟩⟩
theorem RdT.str {P : Program} {t : TypeId} [h : TyString P t] : RdT P t eStr StrP := ⟨fun hx hw => by
  obtain ⟨s, rfl, rfl, _⟩ := DataW.trod_string h.h hx
  refine ⟨s, rfl, ?_⟩
  show s.size ≤ reachBytes
  have := hw s.data.toList.length (by simp [DataW.weights])
  simpa using this⟩
theorem weightsAll_mem {H : Type} {P : Program} {e : TypeId} {m : Nat} {d : DataW H} : ∀ {l : List (DataW H)}, d ∈ l → m ∈ d.weights P e → m ∈ DataW.weightsAll P e l
  | x :: r, hd, hm => by
    simp only [DataW.weightsAll, List.mem_append]
    rcases List.mem_cons.1 hd with rfl | hd
    · exact .inl hm
    · exact .inr (weightsAll_mem hd hm)
theorem RdT.slice {P : Program} {t et : TypeId} [ht : TySl P t et] {size bytes : Nat} {zz : Value} [hz : TySz P et size bytes zz] {α : Type} [Inhabited α] {e : Enc α} {φ : α → Prop} (h : RdT P et e φ) (hs : e.n = size) (hp : Nat.blt 0 size = true) (hb : Nat.blt 0 bytes = true) :
    RdT P t (eL e) (ListP φ) := ⟨fun {H enc W n cs x} hx hw => by
  obtain ⟨ti, hi, h1, h2, _⟩ := hz.h
  have hp' : 0 < size := by simpa [Nat.blt_eq] using hp
  have hb' : 0 < bytes := by simpa [Nat.blt_eq] using hb
  have hc : P.cellsOf et = size := by simp [Program.cellsOf, hi, h1]
  have hby : P.bytesOf et = bytes := by simp [Program.bytesOf, hi, h2]
  rcases DataW.trod_slice ht.h hx with ⟨rfl, rfl⟩ | ⟨a, len, cap, elems, rest, m, rfl, rfl, rfl, _, hlc, hcm, hl, hel, _, _⟩
  · exact ⟨[], rd_nil, Nat.zero_le _, fun i hi => by simp at hi⟩
  · simp only [DataW.weights, ht.h, List.mem_cons, List.mem_append] at hw
    have hlen : len ≤ reachBytes := by
      have := hw _ (.inl rfl)
      rw [hby] at this
      simp only [List.length_map] at this
      have h3 : elems.length + rest.length ≤ (elems.length + rest.length) * bytes := Nat.le_mul_of_pos_right _ hb'
      omega
    -- one by one
    have one : ∀ i, i < len → ∃ ds y, W.cells? 0 (a.add (i * size)) size = some ds ∧ e.rd (memJ W) ds y ∧ φ y := fun i hi => by
      have h4 := hel i hi
      rw [hc, List.getElem?_eq_getElem (by omega)] at h4
      cases hcs : W.cells? 0 (a.add (i * size)) size with
      | none => rw [hcs] at h4; simp at h4
      | some ds =>
        rw [hcs] at h4
        simp only [Option.bind_some] at h4
        obtain ⟨y, hy1, hy2⟩ := h.imp h4 (fun q hq => hw q (.inr (.inl (weightsAll_mem (List.mem_map.2 ⟨_, List.getElem_mem _, rfl⟩) hq))))
        exact ⟨ds, y, rfl, hy1, hy2⟩
    let f : Nat → α := fun i => if hi : i < len then (one i hi).choose_spec.choose else default
    have hf : ∀ i (hi : i < len), ∃ ds, W.cells? 0 (a.add (i * size)) size = some ds ∧ e.rd (memJ W) ds (f i) ∧ φ (f i) := fun i hi => by
      refine ⟨(one i hi).choose, ?_⟩
      simp only [f, dif_pos hi]
      exact (one i hi).choose_spec.choose_spec
    have hxl : ((List.range len).map f).length = len := by simp
    refine ⟨(List.range len).map f, ⟨some a, cap, by rw [hxl], by rw [hxl]; simp only [lenMax]; simp only [reachBytes] at hlen; omega, ?_⟩, by rw [hxl]; exact hlen, fun i hi => ?_⟩
    · by_cases h0 : len = 0
      · subst h0; exact .inl rfl
      · have hspot : a = ⟨a.block, a.off, none⟩ := by
          obtain ⟨ds, h5, _⟩ := hf 0 (by omega)
          obtain ⟨_, h6, h7⟩ := World.cells?_some h5
          have h8 := h7 0 hp'
          have h9 : ds[0]? = some (ds[0]'(by omega)) := List.getElem?_eq_getElem (by omega)
          rw [h9, Nat.zero_mul] at h8
          have ha : (a.add 0).add 0 = a := by simp [Addr.add]
          rw [ha] at h8
          unfold World.cell? at h8
          cases hsp : a.spot with
          | none => cases a; simp_all
          | some q => rw [hsp] at h8; simp at h8; split at h8 <;> simp at h8
        refine .inr ⟨a.block, a.off, by rw [← hspot], fun i y hy => ?_⟩
        have hi : i < len := by have := (List.getElem?_eq_some_iff.1 hy).1; omega
        rw [List.getElem?_map, List.getElem?_range hi] at hy
        simp only [Option.map_some, Option.some.injEq] at hy
        subst hy
        obtain ⟨ds, h5, h6, _⟩ := hf i hi
        refine ⟨ds, h6, fun j v hj => ?_⟩
        obtain ⟨_, h7, h8⟩ := World.cells?_some h5
        have hjl : j < size := by have := (List.getElem?_eq_some_iff.1 hj).1; omega
        have h9 := h8 j hjl
        rw [hj, hspot, Addr.add_lit, Addr.add_lit] at h9
        rw [hs]
        exact h9
    · rw [hxl] at hi
      obtain ⟨_, _, _, h6⟩ := hf i hi
      have h7 := nth_get (xs := (List.range len).map f) (i := i) (by rw [hxl]; exact hi)
      rw [List.getElem?_map, List.getElem?_range hi] at h7
      rw [← Option.some.inj h7]
      exact h6⟩
structure FldT (P : Program) (fs : List Field) (o : Nat) {α : Type} (e : Enc α) (φ : α → Prop) : Prop where
  imp : ∀ {H : Type} {enc : TypeId × Value → H} {W : World} {n : Nat} {cs : List Value} {xs : List (DataW H × List MemPlace)},
  (∀ (i : Nat) (f : Field), fs[i]? = some f → DataW.trod enc P W 0 (fun _ => true) true n f.type ((cs.drop (f.offset - o)).take (P.cellsOf f.type)) = xs[i]?) → xs.length = fs.length → cs.length = (fs.map fun f : Field => P.cellsOf f.type).sum →
    (∀ m ∈ DataW.weightsEach P (fs.map fun f : Field => f.type) (xs.map (·.1)), m ≤ reachBytes) → ∃ a, e.rd (memJ W) cs a ∧ φ a
theorem FldT.nil {P : Program} {o : Nat} : FldT P [] o eU UnitP := ⟨fun {H enc W n cs xs} _ _ hc _ => by
  simp at hc
  subst hc
  exact ⟨(), rfl, trivial⟩⟩
theorem FldT.cons {P : Program} {f : Field} {fs : List Field} {o size bytes : Nat} {zz : Value} {ft : TypeId} [hz : TySz P ft size bytes zz] {α β : Type} {e : Enc α} {e' : Enc β} {φ : α → Prop} {ψ : β → Prop} (h : RdT P ft e φ) (hft : f.type = ft) (ho : f.offset = o) (hge : (fs.all fun g => Nat.ble (o + size) g.offset) = true)
    (r : FldT P fs (o + size) e' ψ) : FldT P (f :: fs) o (eP e e') (AndP φ ψ) := ⟨fun {H enc W n cs xs} hx hl hc hw => by
  subst hft
  obtain ⟨ti, hi, h1, h2, _⟩ := hz.h
  have hcs : P.cellsOf f.type = size := by simp [Program.cellsOf, hi, h1]
  cases xs with
  | nil => simp at hl
  | cons x xs =>
    have h0 := hx 0 f rfl
    rw [ho, Nat.sub_self, List.drop_zero, hcs] at h0
    simp only [List.getElem?_cons_zero] at h0
    simp only [List.map_cons, DataW.weightsEach, List.mem_append] at hw
    simp only [List.map_cons, List.sum_cons, hcs] at hc
    obtain ⟨a, k1, k2⟩ := h.imp h0 (fun m hm => hw m (.inl hm))
    obtain ⟨b, k3, k4⟩ := r.imp (H := H) (enc := enc) (W := W) (n := n) (cs := cs.drop size) (xs := xs) (fun i g hg => by
      have := hx (i + 1) g (by simpa using hg)
      simp only [List.getElem?_cons_succ] at this
      rw [← this, List.drop_drop]
      have hb := Nat.le_of_ble_eq_true (List.all_eq_true.1 hge g (List.mem_of_getElem? hg))
      rw [show size + (g.offset - (o + size)) = g.offset - o by omega]) (by simpa using hl) (by rw [List.length_drop]; omega) (fun m hm => hw m (.inr hm))
    exact ⟨(a, b), ⟨cs.take size, cs.drop size, (List.take_append_drop _ _).symm, k1, k3⟩, k2, k4⟩⟩
theorem RdT.struct {P : Program} {t : TypeId} {fs : Array Field} {l : List Field} (hu : P.underlying t = some (.struct fs)) (hl : fs.toList = l) {α : Type} {e : Enc α} {φ : α → Prop} (hsz : P.cellsOf t = (l.map fun f : Field => P.cellsOf f.type).sum) (F : FldT P l 0 e φ) : RdT P t e φ := ⟨fun {H enc W n cs x} hx hw => by
  subst hl
  obtain ⟨xs, m, rfl, rfl, hc, hn, hf⟩ := DataW.trod_struct hu hx
  simp only [DataW.weights, hu] at hw
  exact F.imp (fun i f hf' => by rw [Nat.sub_zero]; exact hf i f (by simpa using hf')) (by simpa using hn) (hc.trans hsz) hw⟩
theorem RdT.conv {P : Program} {t : TypeId} {α β : Type} {e : Enc α} {φ : α → Prop} (h : RdT P t e φ) {e' : Enc β} (f : α → β) (hf : ∀ J cs a, e.rd J cs a → e'.rd J cs (f a)) {ψ : β → Prop} (hψ : ∀ a, φ a → ψ (f a)) : RdT P t e' ψ := ⟨fun hx hw => by
  obtain ⟨a, h1, h2⟩ := h.imp hx hw
  exact ⟨f a, hf _ _ _ h1, hψ _ h2⟩⟩
structure ArrT (P : Program) (et : TypeId) (k : Nat) {α : Type} (e : Enc α) (φ : α → Prop) : Prop where
  imp : ∀ {H : Type} {enc : TypeId × Value → H} {W : World} {n : Nat} {cs : List Value} {xs : List (DataW H × List MemPlace)},
  (∀ i, i < k → DataW.trod enc P W 0 (fun _ => true) true n et ((cs.drop (i * P.cellsOf et)).take (P.cellsOf et)) = xs[i]?) → xs.length = k → cs.length = k * P.cellsOf et → (∀ m ∈ DataW.weightsAll P et (xs.map (·.1)), m ≤ reachBytes) → ∃ a, e.rd (memJ W) cs a ∧ φ a
theorem ArrT.nil {P : Program} {et : TypeId} : ArrT P et 0 eU UnitP := ⟨fun {H enc W n cs xs} _ _ hc _ => by
  simp at hc
  subst hc
  exact ⟨(), rfl, trivial⟩⟩
theorem ArrT.cons {P : Program} {et : TypeId} {k : Nat} {α β : Type} {e : Enc α} {e' : Enc β} {φ : α → Prop} {ψ : β → Prop} (h : RdT P et e φ) (r : ArrT P et k e' ψ) : ArrT P et (k + 1) (eP e e') (AndP φ ψ) := ⟨fun {H enc W n cs xs} hx hl hc hw => by
  cases xs with
  | nil => simp at hl
  | cons x xs =>
    have h0 := hx 0 (by omega)
    rw [Nat.zero_mul, List.drop_zero] at h0
    simp only [List.getElem?_cons_zero] at h0
    simp only [List.map_cons, DataW.weightsAll, List.mem_append] at hw
    obtain ⟨a, k1, k2⟩ := h.imp h0 (fun m hm => hw m (.inl hm))
    obtain ⟨b, k3, k4⟩ := r.imp (H := H) (enc := enc) (W := W) (n := n) (cs := cs.drop (P.cellsOf et)) (xs := xs) (fun i hi => by
      have := hx (i + 1) (by omega)
      simp only [List.getElem?_cons_succ] at this
      rw [← this, List.drop_drop, Nat.succ_mul, Nat.add_comm]) (by simpa using hl) (by rw [List.length_drop, hc, Nat.succ_mul]; omega) (fun m hm => hw m (.inr hm))
    exact ⟨(a, b), ⟨cs.take (P.cellsOf et), cs.drop (P.cellsOf et), (List.take_append_drop _ _).symm, k1, k3⟩, k2, k4⟩⟩
theorem RdT.arr {P : Program} {t et : TypeId} {k : Nat} [ht : TyArr P t k et] {α : Type} {e : Enc α} {φ : α → Prop} (hsz : P.cellsOf t = k * P.cellsOf et) (F : ArrT P et k e φ) : RdT P t e φ := ⟨fun {H enc W n cs x} hx hw => by
  obtain ⟨xs, m, rfl, rfl, hc, hn, hf⟩ := DataW.trod_array ht.h hx
  simp only [DataW.weights, ht.h] at hw
  exact F.imp hf hn (hc.trans hsz) hw⟩
theorem not_ok_agg {P : Program} {W : World} {r : Reach} {base : Nat} {t : TypeId} {cs : Array Value} (h : Cell.ok P W r base t (.agg cs)) : False := by
  unfold Cell.ok at h
  revert h
  split <;> simp_all
/-- One argument, opened. -/
theorem RdT.val {P : Program} {t : TypeId} {α : Type} {e : Enc α} {φ : α → Prop} (h : RdT P t e φ) (hag : (match P.underlying t with | some (.struct _) | some (.array _ _) => true | _ => false) = e.agg) {H : Type} {enc : TypeId × Value → H} {W : World} {base : Nat} {v : Value} {d : DataW H} {ps : List MemPlace}
    (hv : Value.okWide P W .any base t v) (ht : DataW.Trod enc P W 0 (fun _ => true) true t v d ps) (hw : ∀ m ∈ d.weights P t, m ≤ reachBytes) : ∃ a, kRd e a ⟨memJ W, noM⟩ v ∧ φ a := by
  obtain ⟨n, hn⟩ := ht
  obtain ⟨a, h1, h2⟩ := h.imp hn hw
  refine ⟨a, ⟨_, h1, ?_⟩, h2⟩
  cases hb : e.agg with
  | true =>
    rw [hb] at hag
    unfold Value.okWide at hv
    split at hv
    · obtain ⟨cs, rfl, _⟩ := hv; simp [Value.cells]
    · obtain ⟨cs, rfl, _⟩ := hv; simp [Value.cells]
    · rename_i h3 h4
      exfalso
      revert hag
      split
      · rename_i fs hq; exact fun _ => h3 _ hq
      · rename_i q r hq; exact fun _ => h4 _ _ hq
      · intro hf; cases hf
  | false =>
    obtain ⟨h3, h4⟩ := e.one hb
    have hl := e.len h1
    rw [h3] at hl
    simp only [Bool.false_eq_true, if_false]
    cases v with
    | agg cs =>
      exfalso
      rw [hb] at hag
      unfold Value.okWide at hv
      split at hv
      · rename_i fs hq; rw [hq] at hag; cases hag
      · rename_i q r hq; rw [hq] at hag; cases hag
      · have : Cell.ok P W .any base t (.agg cs) := by
          unfold Cell.okWide at hv
          split at hv <;> first | (rename_i hq; cases hq; done) | exact hv
        exact not_ok_agg this
    | _ => simp [Value.cells]
end Go.Fl

/- The last step of a law's row. -/
namespace Go.Fl
open Go Go.RowKit Go.ChangeShapes Go.WideShapes Go.ChangeAt
def szB (P : Program) : Bool := (List.range P.types.size).all fun t => match P.underlying t with | some (.slice e) => Nat.blt 0 (P.cellsOf e) | _ => true
theorem szB_spec {P : Program} (h : szB P = true) {t e : TypeId} (ht : t < P.types.size) (hu : P.underlying t = some (.slice e)) : 0 < P.cellsOf e := by
  have := List.all_eq_true.1 h t (List.mem_range.2 ht)
  rw [hu] at this
  simpa [Nat.blt_eq] using this
section
variable {H : Type} {enc : TypeId × Value → H} {P : Program}
theorem trodAll_stays (hl : laidOutB P = true) (hm : mapsRowed P = true) (hz : szB P = true) {W W' : World} {sp : Nat → Bool} : ∀ {ts : List TypeId} {vs : List Value} {ds : List (DataW H)} {ps : List MemPlace}, (∀ t ∈ ts, t < P.types.size) → DataW.TrodAll enc P W 0 (fun _ => true) true ts vs ds ps →
    (∀ p ∈ ps, W.sameAt W' p) → (∀ p ∈ ps, sp p.block = true) → DataW.TrodAll enc P W' 0 sp true ts vs ds ps
  | [], [], [], ps, _, h, _, _ => h
  | t :: ts, v :: vs, d :: ds, ps, ht, h, hs, hp => by
    obtain ⟨p, q, ⟨n, hn⟩, h2, rfl⟩ := h
    refine ⟨p, q, ⟨n, ?_⟩, trodAll_stays hl hm hz (fun u hu => ht u (List.mem_cons_of_mem _ hu)) h2 (fun x hx => hs x (List.mem_append.2 (.inr hx))) (fun x hx => hp x (List.mem_append.2 (.inr hx))), rfl⟩
    exact DataW.trod_stays (kids_rows hl hm) (fun ht hu => szB_spec hz ht hu) (fun h => by cases h) (ht t List.mem_cons_self) hn (fun x hx => hs x (List.mem_append.2 (.inl hx))) (fun x hx => hp x (List.mem_append.2 (.inl hx)))
  | [], _ :: _, _, _, _, h, _, _ => h.elim
  | [], [], _ :: _, _, _, h, _, _ => h.elim
  | _ :: _, [], _, _, _, h, _, _ => h.elim
  | _ :: _, _ :: _, [], _, _, h, _, _ => h.elim
theorem law_post {f : Func} {s : ChangeSpec} {W W' : World} {args : Array Value} {ds gs : List (DataW H)} {before : List MemPlace} {tb : TypeId} (hl : laidOutB P = true) (hm : mapsRowed P = true) (hz : szB P = true) (hW : DataW.Whole enc P f.params.toList s.vars false W args.toList ds gs before)
    (hts : (f.params.toList.all fun t => Nat.blt t P.types.size) = true) (hv : s.vars = []) (hfn : gs = [] → s.fn H (ds ++ gs) = { results := [.lit (.bool true)], args := ds }) (hr : f.resultTypes = #[tb]) (hb : P.underlying tb = some .bool) (hbel : Below W.heap.size W W') :
    s.post enc P f false true false false W args (.bool true) W' := by
  have hW' := hW
  obtain ⟨p, q, hA, hV, rfl, _, _⟩ := hW
  rw [hv] at hV
  obtain ⟨rfl, rfl⟩ := trodVars_none hV
  simp only [List.append_nil] at hW'
  have hfn' := hfn rfl
  have hlt : ∀ x ∈ p, x.block < W.heap.size := fun x hx => hW'.lt x hx
  refine ⟨ds, [], p, [], p, [], hW', ?_, ?_, ?_, hbel.frame _, fun h => by cases h⟩
  · rw [hfn', hr]
    exact trodAll_mk1 (shut_bool hb _)
  · rw [hfn']
    refine trodAll_stays hl hm hz (fun t ht => ?_) hA (fun x hx => ?_) (fun x hx => by simpa using hlt x hx)
    · have := List.all_eq_true.1 hts t ht
      simpa [Nat.blt_eq] using this
    · cases x with
      | cell b o => exact hbel.cell (p := ⟨b, o, none⟩) (hlt _ hx)
      | map b => exact hbel.block b (hlt _ hx)
  · rw [hfn', hv]; exact rfl
theorem weights_cons {t : TypeId} {ts : List TypeId} {d : DataW H} {ds : List (DataW H)} (h : (DataW.weightsEach P (t :: ts) (d :: ds)).all (· ≤ reachBytes) = true) : (∀ m ∈ d.weights P t, m ≤ reachBytes) ∧ (DataW.weightsEach P ts ds).all (· ≤ reachBytes) = true := by
  simp only [DataW.weightsEach, List.all_append, Bool.and_eq_true] at h
  exact ⟨fun m hm => by simpa using List.all_eq_true.1 h.1 m hm, h.2⟩
end
theorem Ct.law {P : Program} {f : FuncId} {args : List Know} (h : Ct P f args (kB true)) {W : World} {vs : Array Value} (hv : allK ⟨memJ W, noM⟩ args vs.toList) {Q : Ending → World → Prop} (hq : ∀ W', Below W.heap.size W W' → Q (.returned (.bool true)) W') : Calls P f vs W Q := by
  have := h W (memJ W) (memJ_im W) vs.toList hv
  refine this.mono fun e W' ⟨r, J', he, hb, _, _, _, hr⟩ => ?_
  subst he
  rw [show r = .bool true from hr]
  exact hq W' hb
theorem kI_rd {k : IntKind} {n : Int} {g : Gh} {v : Value} (h : kRd (eInt k) n g v) : kDet (.int k n) g v := by
  obtain ⟨_, rfl, rfl⟩ := h; rfl
theorem kS_rd {n : ByteArray} {g : Gh} {v : Value} (h : kRd eStr n g v) : kDet (.string n) g v := by
  obtain ⟨_, rfl, rfl⟩ := h; rfl
theorem kB_rd {n : Bool} {g : Gh} {v : Value} (h : kRd eBool n g v) : kDet (.bool n) g v := by
  obtain ⟨_, rfl, rfl⟩ := h; rfl
end Go.Fl

/- THE LAW HomologyForm HOLDS FOR EVERY INPUT: whatever the arguments, the call returns true, and each argument reads behind it as before. Conditions: those of the given row (its listed variables as the program lays them). -/
namespace Go.Proofs.YtjknpblmpcecjaaDoor
open Go Go.Fl Go.RowKit Go.ChangeShapes Go.WideShapes Go.ChangeAt

theorem rdt22 : RdT Tryd.prog 22 (eL eI) (ListP (okI .i64)) := RdT.slice RdT.int rfl rfl rfl
theorem rdt24t : RdT Tryd.prog 24 (eP (eL eI) (eP (eL eI) eU)) (AndP (ListP (okI .i64)) (AndP (ListP (okI .i64)) UnitP)) := by
  refine RdT.struct (l := [_, _]) Tryd.underlying24 rfl (by kernel_rfl) ?_
  refine FldT.cons rdt22 (by rfl) (by rfl) (by rfl) ?_
  refine FldT.cons rdt22 (by rfl) (by rfl) (by rfl) ?_
  exact FldT.nil
theorem rdt24 : RdT Tryd.prog 24 eO (fun o : Ori => ListP (okI .i64) o.1 ∧ ListP (okI .i64) o.2) := RdT.conv rdt24t (fun x => ((x.1, x.2.1) : Ori)) (fun _ _ _ h => h) (fun _ h => ⟨h.1, h.2.1⟩)
theorem rdt47t : RdT Tryd.prog 47 (eP (eL eI) (eP (eL eI) (eP eI eU))) (AndP (ListP (okI .i64)) (AndP (ListP (okI .i64)) (AndP (okI .i64) UnitP))) := by
  refine RdT.struct (l := [_, _, _]) Tryd.underlying47 rfl (by kernel_rfl) ?_
  refine FldT.cons rdt22 (by rfl) (by rfl) (by rfl) ?_
  refine FldT.cons rdt22 (by rfl) (by rfl) (by rfl) ?_
  refine FldT.cons RdT.int (by rfl) (by rfl) (by rfl) ?_
  exact FldT.nil
theorem rdt47 : RdT Tryd.prog 47 ePair (fun p : PairT => ListP (okI .i64) p.1 ∧ ListP (okI .i64) p.2.1 ∧ okI .i64 p.2.2) := RdT.conv rdt47t (fun x => ((x.1, x.2.1, x.2.2.1) : PairT)) (fun _ _ _ h => h) (fun _ h => ⟨h.1, h.2.1, h.2.2.1⟩)
theorem own : ownKnob Tryd.prog.godebug = none := by kernel_rfl
set_option maxRecDepth 100000 in
theorem lifted (os : Os) (started : os.Started) (H : Type) (enc : TypeId × Value → H) :
    ReturnsInHanded {} Tryd.checked os 4 .any (fun w args => (Rows.homologyFormSpec.pre enc Tryd.prog Tryd.f4 [] false w args ∧ laidMetH Tryd.prog Rows.homologyFormRow.laid w) ∧ sizedMet enc Tryd.prog Tryd.f4 (OpenSpec.ofChange Rows.homologyFormSpec) false w args)
      (Rows.homologyFormSpec.post enc Tryd.prog Tryd.f4 false true false false) := by
  refine returnsInHanded_of_change_and (C := Tryd.checked) (X := fun w _ => laidMetH Tryd.prog Rows.homologyFormRow.laid w) (fun _ _ _ hh h => h.of_heap hh) own started (by kernel_rfl) Tryd.func4
    (ChangeSpec.witness_shaped (enc := enc) (C := Tryd.checked) (os := os) (X := fun w _ => laidMetH Tryd.prog Rows.homologyFormRow.laid w) false (World.laidAll Tryd.prog os Rows.homologyFormRow.laid) #[.agg #[.slice none 0 0, .slice none 0 0], .agg #[.slice none 0 0, .slice none 0 0, .int .i64 0], .int .i8 0] 8 (World.laidAll_os _ _ _)
      (World.shaped_of_ZipB (by kernel_rfl) (by kernel_rfl)) (by kernel_rfl) (by kernel_rfl) (by kernel_rfl)
      (by rw [MakeChecks.laidMetH_plain _ _ _ (by kernel_rfl)]; exact laidMet_laidAll _ (by kernel_rfl) (by kernel_rfl))) ?_
  intro W base args ds gs before hval0 hW _ hwt hL _
  have hval : ∀ (j : Nat) t v, Tryd.f4.params[j]? = some t → args[j]? = some v → Value.okWide Tryd.prog W .any base t v := hval0
  have hpost : ∀ W', Below W.heap.size W W' → Rows.homologyFormSpec.post enc Tryd.prog Tryd.f4 false true false false W args (.bool true) W' := fun W' hb => law_post (by kernel_rfl) (by kernel_rfl) (by kernel_rfl) hW (by kernel_rfl) rfl (fun hg => by
    subst hg
    obtain ⟨p, q, hA0, _⟩ := hW
    have hA : DataW.TrodAll enc Tryd.prog W 0 (fun _ => true) true Tryd.f4.params.toList args.toList ds p := hA0
    rw [Tryd.params4] at hA
    obtain ⟨v0, v1, v2, d0, d1, d2, _, _, _, rfl, rfl, _, _, _, _⟩ := trodAll_three hA
    rfl) rfl Tryd.underlying4 hb
  have hW0 := hW
  obtain ⟨p, q, hA0, hV, rfl, _, _⟩ := hW0
  have hA : DataW.TrodAll enc Tryd.prog W 0 (fun _ => true) true Tryd.f4.params.toList args.toList ds p := hA0
  rw [Tryd.params4] at hA hval hwt
  obtain ⟨rfl, rfl⟩ := trodVars_none hV
  obtain ⟨v0, v1, v2, d0, d1, d2, _, _, _, rfl, rfl, _, h0, h1, h2⟩ := trodAll_three hA
  have hwt' : (DataW.weightsEach Tryd.prog [24, 47, 48] [d0, d1, d2]).all (· ≤ reachBytes) = true := hwt
  have w0 := weights_cons hwt'
  have w1 := weights_cons w0.2
  have w2 := weights_cons w1.2
  obtain ⟨x0, k0, r0⟩ := RdT.val (by exact rdt24 : RdT Tryd.prog 24 eO (fun o : Ori => ListP (okI .i64) o.1 ∧ ListP (okI .i64) o.2)) rfl (hval 0 24 v0 rfl rfl) h0 w0.1
  obtain ⟨x1, k1, r1⟩ := RdT.val (by exact rdt47 : RdT Tryd.prog 47 ePair (fun p : PairT => ListP (okI .i64) p.1 ∧ ListP (okI .i64) p.2.1 ∧ okI .i64 p.2.2)) rfl (hval 1 47 v1 rfl rfl) h1 w1.1
  obtain ⟨x2, k2, r2⟩ := RdT.val (by exact RdT.int : RdT Tryd.prog 48 (eInt .i8) (okI .i8)) rfl (hval 2 48 v2 rfl rfl) h2 w2.1
  refine Ct.law (vs := #[v0, v1, v2]) (ct_HomologyForm x0 x1 x2 (okI8 r2)) ?_ fun W' hb => ⟨_, rfl, hpost W' hb⟩
  exact ⟨k0, k1, (kI_rd k2), trivial⟩
theorem holds : Rows.homologyFormRow.holds Tryd.pinned (OpenSpec.ofChange Rows.homologyFormSpec) :=
  OpenClaim.holds_of_wide 4 Tryd.f4 rfl rfl rfl rfl rfl rfl rfl ⟨rfl, rfl, rfl, rfl, rfl⟩ rfl rfl rfl rfl rfl (by kernel_rfl) Tryd.func4 (by kernel_rfl)
    (of_decide_eq_true (by kernel_rfl)) (by unfold Func.isWrapper; first | (rw [if_pos (by decide +kernel)]; kernel_rfl) | (rw [if_neg (by decide +kernel)]; exact ⟨rfl, rfl⟩))
    (fun os started H enc _ => lifted os started H enc)
theorem homologyForm_holds : Rows.HomologyFormCardSaid :=
  Claim7.holds_tied_plain_at .later [] [.data, .pinned] true (true, "252dad1770f534ae80f9b31edcf54ab8807fc43037e7828423b9627a9e6c4751") false holds (fun _ h => by cases h) (by kernel_rfl) (fun _ h => by cases h) homologyForm_row_tie rfl ⟨rfl, rfl⟩ (by kernel_rfl) rfl
    (fun f fn hf hfn => by
      obtain rfl : f = 4 := Option.some.inj ((show Tryd.prog.funcNamed Rows.homologyFormRow.func = some 4 by kernel_rfl).symm.trans hf) |>.symm
      obtain rfl : fn = Tryd.f4 := (Option.some.inj (Tryd.func4.symm.trans hfn)).symm
      exact ⟨by kernel_rfl, fun j t ht => by
        rw [Tryd.params4] at ht
        have hm : t ∈ [24, 47, 48] := by simpa using Array.mem_of_getElem? ht
        have hall : ([24, 47, 48].all fun u => !Tryd.prog.wantsStandIn u) = true := by kernel_rfl
        exact (show Tryd.prog.wantsStandIn t = false by simpa using List.all_eq_true.1 hall t hm)⟩)
    (by kernel_rfl)
end Go.Proofs.YtjknpblmpcecjaaDoor
