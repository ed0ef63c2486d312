/- Laws on walking typed knowledge through code, and contracts. -/
import Derived.Test.YtdndmmbonlkkgaaGreatDoorM3

/- Contract: the law of rows, where the example is mapped as it should. -/
namespace Go.Fl
open Go Go.Proofs
open TrL renaming op → tO
open RunD renaming op → rO

set_option maxRecDepth 100000 in
set_option maxHeartbeats 1000000 in
theorem ct_ExchangeRows (r : Ori) (s : ByteArray) (haw : Ct Tryz.prog 5 [] (kB true)) : CtG GV Tryz.prog 3 [kRd eO r, kS s] (kB true) := by
  refine CtG.mk Tryz.func3 rfl Tryz.ntmps3 rfl (fun w J hG => ?_); refine Tr.seq (Tr.rg ?_); refine TrL.new (ok_box 2 rfl uu rfl) rfl rfl rfl rfl ?_; refine mw rfl rfl rfl ?_; refine TrL.fin (End.nxt (Tr.seq (Tr.seq (Tr.rg ?_)))); refine tO (ok_call (fun hp => haw) (.nil)) rfl rfl ?_; refine tO (ok_not rfl uu) rfl rfl ?_; refine TrL.fin (End.nxt ?_); refine Tr.cnd rfl ?_ ?_
  · intro h1
    simp at h1
  · intro h1
    refine Tr.skip (End.nxt (Tr.seq (Tr.seq (Tr.rg ?_)))); refine tO (ok_ldBS rfl uu) rfl rfl ?_; refine tO (ok_call (fun hp => ct_few5 _) (.s rfl uu rfl <| .nil)) rfl rfl ?_; refine tO (ok_not rfl uu) rfl rfl ?_; refine mv rfl rfl rfl ?_; refine TrL.gd rfl rfl rfl (ok_move rfl uu) rfl rfl ?_; refine TrL.gd rfl rfl rfl (ok_lenS rfl id) rfl rfl ?_; refine TrL.gd rfl rfl rfl (ok_gtr rfl id rfl uu) rfl rfl ?_; refine tO (ok_or rfl uu rfl (fun hp h => gdF2 ((fun _ => rfl) hp) h)) rfl rfl ?_; refine TrL.fin (End.nxt ?_); refine Tr.cnd rfl ?_ ?_
    · intro h3
      refine Tr.seq (Tr.rg ?_); refine mw rfl rfl rfl ?_; refine TrL.fin (End.nxt (Tr.ret (Rts.thn ?_))); exact Rts.res1 (fn := Tryz.f3) rfl (.b rfl (by rfl) <| .nil)
    · intro h3
      simp at h3
      refine Tr.skip (End.nxt (Tr.seq (Tr.rg ?_))); refine tO (ok_ldBS rfl uu) rfl rfl ?_; refine tO (ok_call (fun hp => ct_eIrr _) (.s rfl uu rfl <| .nil)) rfl rfl ?_; refine mv rfl rfl rfl ?_; refine tO (ok_ext rfl uu rfl) rfl rfl ?_; refine tO (ok_ext rfl uu rfl) rfl rfl ?_; refine mw rfl rfl rfl ?_; refine mw rfl rfl rfl ?_; refine TrL.fin (End.nxt (Tr.seq (Tr.rg ?_))); refine tO (ok_ldBS rfl uu) rfl rfl ?_; refine tO (ok_call (fun hp => ct_ePrint _) (.s rfl uu rfl <| .nil)) rfl rfl ?_; refine mv rfl rfl rfl ?_
      refine tO (ok_ext rfl uu rfl) rfl rfl ?_; refine tO (ok_ext rfl uu rfl) rfl rfl ?_; refine mw rfl rfl rfl ?_; refine mw rfl rfl rfl ?_; refine TrL.fin (End.nxt (Tr.seq (Tr.rg ?_))); refine mv rfl rfl rfl ?_; refine tO (ok_callG hG (fun hp => ct_eParse _ (by omega)) (.a rfl uu <| .nil)) rfl rfl ?_; refine mv rfl rfl rfl ?_; refine tO (ok_ext rfl uu rfl) rfl rfl ?_; refine tO (ok_ext rfl uu rfl) rfl rfl ?_; refine TrL.new (ok_alloc 9) rfl rfl rfl rfl ?_; refine TrL.stB rfl rfl rfl rfl ?_; refine mw rfl rfl rfl ?_
      refine TrL.fin (End.nxt (Tr.seq (Tr.rg ?_))); refine mv rfl rfl rfl ?_; refine tO (ok_call (fun hp => ct_rParse5 _ (by omega)) (.a rfl uu <| .nil)) rfl rfl ?_; refine mv rfl rfl rfl ?_; refine tO (ok_ext rfl uu rfl) rfl rfl ?_; refine tO (ok_ext rfl uu rfl) rfl rfl ?_; refine TrL.new (ok_alloc 11) rfl rfl rfl rfl ?_; refine TrL.stB rfl rfl rfl rfl ?_; refine mw rfl rfl rfl ?_; refine TrL.fin (End.nxt (Tr.seq (Tr.seq (Tr.rg ?_)))); refine mv rfl rfl rfl ?_; refine mv rfl rfl rfl ?_; refine tO (ok_eql rfl uu rfl uu) rfl rfl ?_
      refine tO (ok_neqB rfl uu rfl uu) rfl rfl ?_; refine mv rfl rfl rfl ?_; refine TrL.gd rfl rfl rfl (ok_move rfl uu) rfl rfl ?_; refine TrL.gd rfl rfl rfl (ok_not rfl id) rfl rfl ?_; refine TrL.gd rfl rfl rfl (ok_move rfl id) rfl rfl ?_; refine TrL.gd rfl rfl rfl (ok_move rfl uu) rfl rfl ?_; refine TrL.gd rfl rfl rfl (ok_neq rfl id rfl uu) rfl rfl ?_; refine TrL.gd rfl rfl rfl (ok_and rfl id rfl (fun hp h => gdT2 (id hp) h)) rfl rfl ?_; refine tO (ok_or rfl uu rfl (fun hp h => gdF2 ((fun _ => rfl) hp) h)) rfl rfl ?_; refine mv rfl rfl rfl ?_; refine TrL.gd rfl rfl rfl (ok_ldBS rfl uu) rfl rfl ?_
      refine TrL.gd rfl rfl rfl (ok_ldBS rfl uu) rfl rfl ?_; refine TrL.gd rfl rfl rfl (ok_call (fun hp => ct_rSame5 _ _) (.s rfl id rfl <| .s rfl id rfl <| .nil)) rfl rfl ?_; refine TrL.gd rfl rfl rfl (ok_not rfl id) rfl rfl ?_; refine tO (ok_or rfl uu rfl (fun hp h => gdF2 ((fun _ => rfl) hp) h)) rfl rfl ?_; refine TrL.fin (End.nxt ?_); refine Tr.cnd rfl ?_ ?_
      · intro h9
        obtain ⟨p1, p2, p3⟩ := par_same s
        rw [p1, p2] at h9
        rcases p3 with p3 | p3 <;> simp [p3] at h9
      · intro h9
        refine Tr.skip (End.nxt (Tr.seq (Tr.rg ?_))); refine tO (ok_ldBS rfl uu) rfl rfl ?_; refine tO (ok_call (fun hp => ct_rCheckRows _) (.s rfl uu rfl <| .nil)) rfl rfl ?_; refine mw rfl rfl rfl ?_; refine TrL.fin (End.nxt (Tr.seq (Tr.seq (Tr.rg ?_)))); refine tO (ok_ldBS rfl uu) rfl rfl ?_; refine tO (ok_call (fun hp => ct_eCheckRows _) (.s rfl uu rfl <| .nil)) rfl rfl ?_; refine mv rfl rfl rfl ?_; refine tO (ok_neq rfl uu rfl uu) rfl rfl ?_; refine mv rfl rfl rfl ?_; refine TrL.gd rfl rfl rfl (ok_move rfl uu) rfl rfl ?_
        refine TrL.gd rfl rfl rfl (ok_move rfl uu) rfl rfl ?_; refine TrL.gd rfl rfl rfl (ok_neq rfl id rfl id) rfl rfl ?_; refine tO (ok_or rfl uu rfl (fun hp h => gdF2 ((fun _ => rfl) hp) h)) rfl rfl ?_; refine mv rfl rfl rfl ?_; refine TrL.gd rfl rfl rfl (ok_move rfl uu) rfl rfl ?_; refine TrL.gd rfl rfl rfl (ok_move rfl uu) rfl rfl ?_; refine TrL.gd rfl rfl rfl (ok_neq rfl id rfl id) rfl rfl ?_; refine tO (ok_or rfl uu rfl (fun hp h => gdF2 ((fun _ => rfl) hp) h)) rfl rfl ?_; refine TrL.fin (End.nxt ?_); refine Tr.cnd rfl ?_ ?_
        · intro h12
          simp at h12
        · intro h12
          refine Tr.skip (End.nxt (Tr.seq (Tr.seq (Tr.rg ?_)))); refine mv rfl rfl rfl ?_; refine tO (ok_neq rfl uu rfl uu) rfl rfl ?_; refine TrL.fin (End.nxt ?_); refine Tr.cnd rfl ?_ ?_
          · intro h14
            replace h14 := of_decide_eq_true h14
            refine Tr.seq (Tr.rg ?_); refine mv rfl rfl rfl ?_; refine tO (ok_not rfl uu) rfl rfl ?_; refine mv rfl rfl rfl ?_; refine TrL.gd rfl rfl rfl (ok_move rfl uu) rfl rfl ?_; refine TrL.gd rfl rfl rfl (ok_eqlS rfl id rfl uu) rfl rfl ?_; refine tO (ok_and rfl uu rfl (fun hp h => gdT2 ((fun _ => rfl) hp) h)) rfl rfl ?_; refine mw rfl rfl rfl ?_; refine TrL.fin (End.nxt (Tr.ret (Rts.thn ?_))); exact Rts.res1 (fn := Tryz.f3) rfl (.b rfl (by rw [if_neg h14, if_neg h14]; rfl) <| .nil)
          · intro h14
            replace h14 := Classical.not_not.1 (of_decide_eq_false h14)
            have v : RowsOk r := rows_of h14
            have hv1 := v.len
            have hv2 := v.two
            have hv3 := v.le
            have hrb : ∀ i, i < r.1.length → 0 ≤ nth r.1 i ∧ nth r.1 i < 100 := fun i hi => v.b1 _ (nth_mem hi)
            have hub : ∀ i, i < r.2.length → 0 ≤ nth r.2 i ∧ nth r.2 i < 100 := fun i hi => v.b2 _ (nth_mem hi)
            have hpl := prR_len v
            have hpp : parP (dS (mkS (if chkR r = 0 then prR r else []))) = (r, 0) := by rw [if_pos h14]; exact parP_prR v
            have hsz : (mkS (if chkR r = 0 then prR r else [])).size ≤ 1000 := by rw [if_pos h14, mkS_size]; omega
            refine Tr.skip (End.nxt (Tr.seq (Tr.rg ?_))); refine mv rfl rfl rfl ?_; refine tO (ok_callG hG (fun hp => ct_eParse _ hsz) (.a rfl uu <| .nil)) rfl rfl ?_; refine mv rfl rfl rfl ?_; refine tO (ok_ext rfl uu rfl) rfl rfl ?_; refine tO (ok_ext rfl uu rfl) rfl rfl ?_; refine TrL.new (ok_alloc 14) rfl rfl rfl rfl ?_; refine TrL.stB rfl rfl rfl rfl ?_; refine mw rfl rfl rfl ?_; refine TrL.fin (End.nxt (Tr.seq (Tr.rg ?_))); refine mv rfl rfl rfl ?_; refine tO (ok_ldBS rfl uu) rfl rfl ?_; refine tO (ok_call (fun hp => ct_rIrr _ v) (.s rfl uu rfl <| .nil)) rfl rfl ?_
            refine tO (ok_eqlB rfl uu rfl uu) rfl rfl ?_; refine mv rfl rfl rfl ?_; refine TrL.gd rfl rfl rfl (ok_move rfl uu) rfl rfl ?_; refine TrL.gd rfl rfl rfl (ok_ldBS rfl uu) rfl rfl ?_; refine TrL.gd rfl rfl rfl (ok_call (fun hp => ct_rPrint5 _ v) (.s rfl id rfl <| .nil)) rfl rfl ?_; refine TrL.gd rfl rfl rfl (ok_eqlS rfl id rfl id) rfl rfl ?_; refine tO (ok_and rfl uu rfl (fun hp h => gdT2 ((fun _ => rfl) hp) h)) rfl rfl ?_; refine mv rfl rfl rfl ?_; refine TrL.gd rfl rfl rfl (ok_move rfl uu) rfl rfl ?_; refine TrL.gd rfl rfl rfl (ok_eql rfl id rfl uu) rfl rfl ?_
            refine tO (ok_and rfl uu rfl (fun hp h => gdT2 ((fun _ => rfl) hp) h)) rfl rfl ?_; refine mv rfl rfl rfl ?_; refine TrL.gd rfl rfl rfl (ok_ldBS rfl uu) rfl rfl ?_; refine TrL.gd rfl rfl rfl (ok_ldBS rfl uu) rfl rfl ?_; refine TrL.gd rfl rfl rfl (ok_call (fun hp => ct_rSame5 _ _) (.s rfl id rfl <| .s rfl id rfl <| .nil)) rfl rfl ?_; refine tO (ok_and rfl uu rfl (fun hp h => gdT2 ((fun _ => rfl) hp) h)) rfl rfl ?_; refine mw rfl rfl rfl ?_; refine TrL.fin (End.nxt (Tr.ret ?_)); exact Rts.res1 (fn := Tryz.f3) rfl (.b rfl (by rw [hpp, if_pos h14, if_pos h14]; simp) <| .nil)

end Go.Fl

/- Integers as digits to the base 10^8. Plain Lean, no program in sight. -/
namespace Go.Fl
def val : List Int → Int
  | [] => 0
  | x :: xs => x + 100000000 * val xs
abbrev BP (n : Nat) : Int := 100000000 ^ n
theorem BP_pos (n : Nat) : 0 < BP n := Int.pow_pos (by omega)
theorem BP_succ (n : Nat) : BP (n + 1) = 100000000 * BP n := by unfold BP; rw [Int.pow_succ, Int.mul_comm]
theorem BP_add (m n : Nat) : BP (m + n) = BP m * BP n := Int.pow_add ..
theorem BP_mono {m n : Nat} (h : m ≤ n) : BP m ≤ BP n := by
  obtain ⟨k, rfl⟩ := Nat.exists_eq_add_of_le h
  have h1 : BP m * 1 ≤ BP m * BP k := Int.mul_le_mul_of_nonneg_left (by have := BP_pos k; omega) (Int.le_of_lt (BP_pos m))
  rw [BP_add]; omega
theorem val_append : ∀ {xs ys : List Int}, val (xs ++ ys) = val xs + BP xs.length * val ys
  | [], ys => by simp [val, BP]
  | x :: xs, ys => by
    rw [List.cons_append, val, val, val_append, List.length_cons, BP_succ, Int.mul_add, Int.mul_assoc]; omega
theorem val_snoc {xs : List Int} {y : Int} : val (xs ++ [y]) = val xs + BP xs.length * y := by rw [val_append]; simp [val]
def Dg (xs : List Int) : Prop := ∀ x ∈ xs, 0 ≤ x ∧ x < 100000000
theorem Dg.nil : Dg [] := fun _ h => by cases h
theorem Dg.snoc {xs : List Int} {y : Int} (h : Dg xs) (h0 : 0 ≤ y) (h1 : y < 100000000) : Dg (xs ++ [y]) := fun x hx => by
  rcases List.mem_append.1 hx with hx | hx
  · exact h x hx
  · simp at hx; subst hx; exact ⟨h0, h1⟩
theorem Dg.at {xs : List Int} (h : Dg xs) {i : Nat} (hi : i < xs.length) : 0 ≤ nth xs i ∧ nth xs i < 100000000 := h _ (nth_mem hi)
theorem Dg.tail {x : Int} {xs : List Int} (h : Dg (x :: xs)) : Dg xs := fun y hy => h y (List.mem_cons_of_mem _ hy)
theorem Dg.take {xs : List Int} (h : Dg xs) (n : Nat) : Dg (xs.take n) := fun y hy => h y (List.mem_of_mem_take hy)
theorem Dg.val0 : ∀ {xs : List Int}, Dg xs → 0 ≤ val xs
  | [], _ => Int.le_refl _
  | x :: xs, h => by
    have := h x List.mem_cons_self
    have := Dg.val0 h.tail
    rw [val]; omega
theorem Dg.val1 : ∀ {xs : List Int}, Dg xs → val xs < BP xs.length
  | [], _ => by simp [val, BP]
  | x :: xs, h => by
    have := h x List.mem_cons_self
    have := Dg.val1 h.tail
    rw [val, List.length_cons, BP_succ]; omega
structure Nm (xs : List Int) : Prop where
  dg : Dg xs
  last : ∀ h : xs ≠ [], xs.getLast h ≠ 0
theorem Nm.nil : Nm [] := ⟨Dg.nil, fun h => absurd rfl h⟩
theorem Nm.tail {x : Int} {xs : List Int} (h : Nm (x :: xs)) : Nm xs := ⟨h.dg.tail, fun hn => by
  have := h.last (by simp)
  rwa [List.getLast_cons hn] at this⟩
theorem Nm.pos : ∀ {xs : List Int}, Nm xs → xs ≠ [] → 0 < val xs
  | [], _, h => absurd rfl h
  | x :: xs, h, _ => by
    have h1 := h.dg x List.mem_cons_self
    rw [val]
    by_cases hn : xs = []
    · subst hn
      have := h.last (by simp)
      simp at this
      simp [val]; omega
    · have := Nm.pos h.tail hn
      omega
theorem Nm.uniq : ∀ {xs ys : List Int}, Nm xs → Nm ys → val xs = val ys → xs = ys
  | [], [], _, _, _ => rfl
  | [], y :: ys, _, h, e => by have := h.pos (by simp); rw [← e] at this; simp [val] at this
  | x :: xs, [], h, _, e => by have := h.pos (by simp); rw [e] at this; simp [val] at this
  | x :: xs, y :: ys, h, k, e => by
    have h1 := h.dg x List.mem_cons_self
    have h2 := k.dg y List.mem_cons_self
    rw [val, val] at e
    obtain rfl : x = y := by omega
    rw [Nm.uniq h.tail k.tail (by omega)]
def digF : Nat → Nat → List Int
  | 0, _ => []
  | f + 1, n => if n = 0 then [] else ((n % 100000000 : Nat) : Int) :: digF f (n / 100000000)
theorem digF_spec : ∀ {f n : Nat}, n ≤ f → Nm (digF f n) ∧ val (digF f n) = n
  | 0, n, h => by
    obtain rfl : n = 0 := by omega
    exact ⟨Nm.nil, rfl⟩
  | f + 1, n, h => by
    rw [digF]
    by_cases e : n = 0
    · rw [if_pos e]; subst e; exact ⟨Nm.nil, rfl⟩
    · rw [if_neg e]
      obtain ⟨h1, h2⟩ := digF_spec (f := f) (n := n / 100000000) (by omega)
      refine ⟨⟨fun x hx => ?_, fun hn => ?_⟩, ?_⟩
      · rcases List.mem_cons.1 hx with rfl | hx
        · omega
        · exact h1.dg x hx
      · by_cases hq : digF f (n / 100000000) = []
        · have : n / 100000000 = 0 := by rw [hq] at h2; simp [val] at h2; omega
          simp only [hq, List.getLast_singleton]; omega
        · rw [List.getLast_cons hq]; exact h1.last hq
      · rw [val, h2]; omega
def digN (n : Nat) : List Int := digF n n
theorem digN_nm (n : Nat) : Nm (digN n) := (digF_spec (Nat.le_refl n)).1
theorem digN_val (n : Nat) : val (digN n) = n := (digF_spec (Nat.le_refl n)).2
theorem digN_dg (n : Nat) : Dg (digN n) := (digN_nm n).dg
theorem digN_of {xs : List Int} {n : Nat} (h : Nm xs) (e : val xs = n) : xs = digN n := h.uniq (digN_nm n) (by rw [digN_val, e])
theorem digN_zero : digN 0 = [] := rfl
theorem digN_nil {n : Nat} : digN n = [] ↔ n = 0 := ⟨fun h => by have := digN_val n; rw [h] at this; simp [val] at this; omega, fun h => by subst h; rfl⟩
theorem digN_len0 {n : Nat} : (digN n).length = 0 ↔ n = 0 := by rw [List.length_eq_zero_iff, digN_nil]
def dl (z : Int) : Nat := (digN z.natAbs).length
theorem dl_lt (z : Int) : (z.natAbs : Int) < BP (dl z) := by
  have := (digN_dg z.natAbs).val1
  rwa [digN_val] at this
theorem Nm.low : ∀ {xs : List Int}, Nm xs → xs ≠ [] → BP (xs.length - 1) ≤ val xs
  | [], _, h => absurd rfl h
  | x :: xs, h, _ => by
    have h1 := h.dg x List.mem_cons_self
    rw [val, List.length_cons, Nat.add_sub_cancel]
    by_cases hn : xs = []
    · subst hn
      have := h.pos (by simp)
      simp [val, BP] at this ⊢; omega
    · have := Nm.low h.tail hn
      have hl : xs.length = (xs.length - 1) + 1 := by have := List.length_pos_iff.2 hn; omega
      rw [hl, BP_succ]; omega
theorem dl_le {z : Int} {k : Nat} (h : (z.natAbs : Int) < BP k) : dl z ≤ k := by
  by_cases hn : digN z.natAbs = []
  · unfold dl; rw [hn]; exact Nat.zero_le _
  · have h1 := (digN_nm z.natAbs).low hn
    rw [digN_val] at h1
    have hl : 0 < dl z := List.length_pos_iff.2 hn
    rcases Nat.lt_or_ge k (dl z) with h2 | h2
    · have := BP_mono (show k ≤ dl z - 1 by omega)
      unfold dl at *; omega
    · exact h2
theorem dl_add (a b : Int) : dl (a + b) ≤ max (dl a) (dl b) + 1 := by
  refine dl_le ?_
  have h1 := dl_lt a; have h2 := dl_lt b
  have h3 := BP_mono (Nat.le_max_left (dl a) (dl b)); have h4 := BP_mono (Nat.le_max_right (dl a) (dl b))
  rw [BP_succ]; omega
theorem dl_mul (a b : Int) : dl (a * b) ≤ dl a + dl b := by
  refine dl_le ?_
  have h1 := dl_lt a; have h2 := dl_lt b
  rw [Int.natAbs_mul, BP_add]
  push_cast
  by_cases hb : b.natAbs = 0
  · rw [hb]; simp; exact Int.mul_pos (BP_pos _) (BP_pos _)
  · exact Int.lt_of_lt_of_le (Int.mul_lt_mul_of_pos_right h1 (by omega)) (Int.mul_le_mul_of_nonneg_left (Int.le_of_lt h2) (Int.le_of_lt (BP_pos _)))
theorem dl_neg (a : Int) : dl (-a) = dl a := by unfold dl; rw [Int.natAbs_neg]
theorem dl_zero {a : Int} : dl a = 0 ↔ a = 0 := by unfold dl; rw [digN_len0]; omega
def trimL : List Int → List Int
  | [] => []
  | x :: xs => if trimL xs = [] ∧ x = 0 then [] else x :: trimL xs
theorem trim_val : ∀ {xs : List Int}, val (trimL xs) = val xs
  | [] => rfl
  | x :: xs => by
    have ih := trim_val (xs := xs)
    rw [trimL]
    split
    · rename_i h
      rw [h.1] at ih
      show 0 = x + 100000000 * val xs
      rw [← ih, h.2]; simp [val]
    · rw [val, val, ih]
theorem trim_len : ∀ {xs : List Int}, (trimL xs).length ≤ xs.length
  | [] => Nat.le_refl _
  | x :: xs => by
    have := trim_len (xs := xs)
    rw [trimL]; split
    · simp
    · simp only [List.length_cons]; omega
theorem trim_mem : ∀ {xs : List Int} {x : Int}, x ∈ trimL xs → x ∈ xs
  | [], _, h => h
  | y :: ys, x, h => by
    rw [trimL] at h
    split at h
    · cases h
    · rcases List.mem_cons.1 h with rfl | h
      · exact List.mem_cons_self
      · exact List.mem_cons_of_mem _ (trim_mem h)
theorem trim_last : ∀ {xs : List Int} (h : trimL xs ≠ []), (trimL xs).getLast h ≠ 0
  | [], h => absurd rfl h
  | x :: xs, h => by
    have e : trimL (x :: xs) = x :: trimL xs := by
      rw [trimL] at h ⊢
      split
      · rename_i hh; rw [if_pos hh] at h; exact absurd rfl h
      · rfl
    by_cases hn : trimL xs = []
    · have hx : x ≠ 0 := fun hx => by rw [trimL, if_pos ⟨hn, hx⟩] at h; exact h rfl
      simp only [e, hn, List.getLast_singleton]; exact hx
    · simp only [e, List.getLast_cons hn]; exact trim_last hn
theorem trim_nm {xs : List Int} (h : Dg xs) : Nm (trimL xs) := ⟨fun x hx => h x (trim_mem hx), trim_last⟩
theorem trim_dig {xs : List Int} (h : Dg xs) {n : Nat} (e : val xs = n) : trimL xs = digN n := digN_of (trim_nm h) (by rw [trim_val, e])
theorem trim_zero : ∀ {xs : List Int}, (∀ i, i < xs.length → nth xs i = 0) → trimL xs = []
  | [], _ => rfl
  | x :: xs, h => by
    rw [trimL, if_pos ⟨trim_zero fun i hi => h (i + 1) (by simpa using hi), h 0 (by simp)⟩]
theorem trim_take : ∀ {xs : List Int} {m : Nat}, m ≤ xs.length → (∀ i, m ≤ i → i < xs.length → nth xs i = 0) → (m = 0 ∨ nth xs (m - 1) ≠ 0) → trimL xs = xs.take m
  | xs, 0, _, h, _ => by rw [List.take_zero]; exact trim_zero fun i hi => h i (Nat.zero_le _) hi
  | [], m + 1, hm, _, _ => by simp at hm
  | x :: xs, m + 1, hm, h, hl => by
    have hz : ∀ i, m ≤ i → i < xs.length → nth xs i = 0 := fun i h1 h2 => h (i + 1) (by omega) (by simpa using h2)
    rw [List.take_succ_cons, trimL]
    rcases Nat.eq_zero_or_pos m with rfl | hm0
    · have hx : x ≠ 0 := by rcases hl with hl | hl; omega; exact hl
      rw [if_neg (fun hh => hx hh.2), trim_zero fun i hi => hz i (Nat.zero_le _) hi]; rfl
    · have hl' : nth xs (m - 1) ≠ 0 := by
        rcases hl with hl | hl
        · omega
        · rw [show m + 1 - 1 = (m - 1) + 1 by omega] at hl; exact hl
      have ih := trim_take (xs := xs) (m := m) (by simpa using hm) hz (.inr hl')
      have hne : trimL xs ≠ [] := by rw [ih]; exact fun hh => by (have h5 := congrArg List.length hh; rw [List.length_take, List.length_nil] at h5; rw [List.length_cons] at hm; omega)
      rw [if_neg (fun hh => hne hh.1), ih]
def xAt (xs : List Int) (i : Nat) : Int := if i < xs.length then nth xs i else 0
def rdS (xs : List Int) : Nat → List Int × Int
  | 0 => ([], 0)
  | i + 1 => ((rdS xs i).1 ++ [(xAt xs i + (rdS xs i).2) % 100000000], (xAt xs i + (rdS xs i).2) / 100000000)
theorem rdS_len {xs : List Int} : ∀ {i : Nat}, (rdS xs i).1.length = i
  | 0 => rfl
  | i + 1 => by rw [rdS, List.length_append, rdS_len]; rfl
theorem rdS_dg {xs : List Int} : ∀ {i : Nat}, Dg (rdS xs i).1
  | 0 => Dg.nil
  | i + 1 => by rw [rdS]; exact rdS_dg.snoc (Int.emod_nonneg _ (by omega)) (Int.emod_lt_of_pos _ (by omega))
theorem take_val {xs : List Int} {i : Nat} : val (xs.take (i + 1)) = val (xs.take i) + BP i * xAt xs i := by
  unfold xAt
  by_cases h : i < xs.length
  · rw [if_pos h, take_succ_nth h, val_snoc, List.length_take, Nat.min_eq_left (by omega)]
  · rw [if_neg h, List.take_of_length_le (by omega), List.take_of_length_le (by omega)]; simp
theorem rdS_val {xs : List Int} : ∀ {i : Nat}, val (rdS xs i).1 + BP i * (rdS xs i).2 = val (xs.take i)
  | 0 => by simp [rdS, val]
  | i + 1 => by
    have ih := rdS_val (xs := xs) (i := i)
    rw [rdS, take_val, ← ih, val_snoc, rdS_len, BP_succ]
    generalize xAt xs i = x
    generalize (rdS xs i).2 = c
    have h := Int.emod_add_mul_ediv (x + c) 100000000
    have h2 : BP i * (x + c) = BP i * ((x + c) % 100000000) + BP i * (100000000 * ((x + c) / 100000000)) := by rw [← Int.mul_add, h]
    have h3 : 100000000 * BP i * ((x + c) / 100000000) = BP i * (100000000 * ((x + c) / 100000000)) := by rw [Int.mul_comm 100000000 (BP i), Int.mul_assoc]
    rw [h3]
    rw [Int.mul_add] at h2
    omega
def InI (xs : List Int) : Prop := ∀ i, i < xs.length → -9223372036854775808 ≤ nth xs i ∧ nth xs i ≤ 9223372036854775807
theorem InI.x {xs : List Int} (h : InI xs) (i : Nat) : -9223372036854775808 ≤ xAt xs i ∧ xAt xs i ≤ 9223372036854775807 := by
  unfold xAt
  split
  · exact h i (by assumption)
  · omega
theorem Dg.inI {xs : List Int} (h : Dg xs) : InI xs := fun i hi => by have := h.at hi; omega
theorem rdS_c {xs : List Int} (h : InI xs) : ∀ {i : Nat}, -100000000000 ≤ (rdS xs i).2 ∧ (rdS xs i).2 ≤ 100000000000
  | 0 => by simp [rdS]
  | i + 1 => by
    have := rdS_c h (i := i)
    have := h.x i
    rw [rdS]; simp only; omega
theorem rdS_split {xs : List Int} {i : Nat} : xAt xs i / 100000000 + (xAt xs i % 100000000 + (rdS xs i).2) / 100000000 = (rdS xs (i + 1)).2 ∧ (xAt xs i % 100000000 + (rdS xs i).2) % 100000000 = (xAt xs i + (rdS xs i).2) % 100000000 := by
  rw [rdS]; simp only; omega
theorem rdS_pos {xs : List Int} {i : Nat} (hi : xs.length ≤ i) (h : (rdS xs i).2 = 0) : val xs = val (rdS xs i).1 := by
  have := rdS_val (xs := xs) (i := i)
  rw [h, Int.mul_zero, Int.add_zero, List.take_of_length_le hi] at this
  exact this.symm
theorem rdS_neg {xs : List Int} {i : Nat} (hi : xs.length ≤ i) (h : (rdS xs i).2 = -1) : val xs = val (rdS xs i).1 - BP i := by
  have := rdS_val (xs := xs) (i := i)
  rw [h, List.take_of_length_le hi] at this
  omega
def bw (ds : List Int) : Nat → Int
  | 0 => 0
  | k + 1 => if -(nth ds k) - bw ds k < 0 then 1 else 0
theorem bw_01 {ds : List Int} : ∀ {k : Nat}, bw ds k = 0 ∨ bw ds k = 1
  | 0 => .inl rfl
  | k + 1 => by rw [bw]; split; exact .inr rfl; exact .inl rfl
def cmD (ds : List Int) (j : Nat) : Int := if -(nth ds j) - bw ds j < 0 then -(nth ds j) - bw ds j + 100000000 else -(nth ds j) - bw ds j
def cmL (ds : List Int) (k : Nat) : List Int := tab ds.length fun j => if j < k then cmD ds j else nth ds j
theorem cmL_len {ds : List Int} {k : Nat} : (cmL ds k).length = ds.length := tab_len
theorem cmL_zero {ds : List Int} : ds = cmL ds 0 := by
  unfold cmL
  exact (tab_nth rfl).trans (tab_congr fun j _ => by rw [if_neg (by omega)])
theorem cmL_at {ds : List Int} {k : Nat} (h : k < ds.length) : nth (cmL ds k) k = nth ds k := by unfold cmL; rw [nth_tab h, if_neg (by omega)]
theorem cmL_succ {ds : List Int} {k : Nat} : (cmL ds k).set k (cmD ds k) = cmL ds (k + 1) := by
  unfold cmL
  rw [tab_set]
  refine tab_congr fun j _ => ?_
  by_cases e : j = k
  · subst e; rw [if_pos rfl, if_pos (by omega)]
  · rw [if_neg e]
    by_cases h : j < k
    · rw [if_pos h, if_pos (by omega)]
    · rw [if_neg h, if_neg (by omega)]
theorem cmD_rng {ds : List Int} (h : Dg ds) {j : Nat} (hj : j < ds.length) : 0 ≤ cmD ds j ∧ cmD ds j < 100000000 := by
  have := h.at hj
  unfold cmD
  rcases bw_01 (ds := ds) (k := j) with e | e <;> rw [e] <;> split <;> omega
theorem cm_val {ds : List Int} (h : Dg ds) : ∀ {k : Nat}, k ≤ ds.length → val (tab k (cmD ds)) = BP k * bw ds k - val (ds.take k) ∧ (bw ds k = 0 → val (ds.take k) = 0)
  | 0, _ => by simp [tab, val, bw]
  | k + 1, hk => by
    obtain ⟨ih, ih0⟩ := cm_val h (k := k) (by omega)
    have hr := h.at (i := k) (by omega)
    rw [tab_succ, val_snoc, tab_len, ih, take_succ_nth (by omega), val_snoc, List.length_take, Nat.min_eq_left (by omega), BP_succ, bw]
    have h01 := bw_01 (ds := ds) (k := k)
    have hp := BP_pos k
    unfold cmD
    split
    · rename_i hn
      refine ⟨?_, fun hh => absurd hh (by omega)⟩
      rw [Int.mul_add (BP k), Int.mul_sub (BP k), Int.mul_neg]
      rw [Int.mul_comm 100000000 (BP k), Int.mul_assoc]
      omega
    · rename_i hn
      have h0 : nth ds k = 0 ∧ bw ds k = 0 := by omega
      rw [h0.1, h0.2, ih0 h0.2]
      simp
theorem cm_pos {ds : List Int} (h : Dg ds) (e : bw ds ds.length ≠ 0) : Dg (cmL ds ds.length) ∧ val (cmL ds ds.length) = BP ds.length - val ds := by
  have e1 : cmL ds ds.length = tab ds.length (cmD ds) := tab_congr fun j hj => if_pos hj
  have hv := (cm_val h (Nat.le_refl ds.length)).1
  rw [List.take_length, (bw_01.resolve_left e), Int.mul_one] at hv
  rw [e1]
  refine ⟨fun x hx => ?_, hv⟩
  obtain ⟨j, hj, rfl⟩ := mem_nth hx
  rw [tab_len] at hj
  rw [nth_tab hj]; exact cmD_rng h hj
theorem cm_zero {ds : List Int} (h : Dg ds) (e : bw ds ds.length = 0) : Dg (cmL ds ds.length ++ [1]) ∧ val (cmL ds ds.length ++ [1]) = BP ds.length - val ds := by
  have e1 : cmL ds ds.length = tab ds.length (cmD ds) := tab_congr fun j hj => if_pos hj
  obtain ⟨hv, hz⟩ := cm_val h (Nat.le_refl ds.length)
  have hz := hz e
  rw [List.take_length] at hv hz
  rw [e, hz] at hv
  rw [e1]
  refine ⟨Dg.snoc (fun x hx => ?_) (by omega) (by omega), ?_⟩
  · obtain ⟨j, hj, rfl⟩ := mem_nth hx
    rw [tab_len] at hj
    rw [nth_tab hj]; exact cmD_rng h hj
  · rw [val_snoc, tab_len, hv, hz]; simp
def lstZ (z : Int) : List Int := if z < 0 then (digN z.natAbs).map (fun x => -x) else digN z.natAbs
theorem val_neg : ∀ {xs : List Int}, val (xs.map fun x => -x) = -val xs
  | [] => rfl
  | x :: xs => by rw [List.map_cons, val, val, val_neg]; omega
theorem lst_val (z : Int) : val (lstZ z) = z := by
  unfold lstZ
  split
  · rw [val_neg, digN_val]; omega
  · rw [digN_val]; omega
theorem lst_len (z : Int) : (lstZ z).length = dl z := by unfold lstZ dl; split <;> simp
theorem lst_zero : lstZ 0 = [] := rfl
theorem lst_in (z : Int) : InI (lstZ z) := fun i hi => by
  unfold lstZ at hi ⊢
  split
  · rename_i h
    rw [if_pos h, List.length_map] at hi
    rw [nth_map hi]
    have := (digN_dg z.natAbs).at hi
    omega
  · rename_i h
    rw [if_neg h] at hi
    have := (digN_dg z.natAbs).at hi
    omega
end Go.Fl

/- Sums, differences, comparisons and products of digits. Plain Lean, no program in sight. -/
namespace Go.Fl
theorem nm_of_low {xs : List Int} (h : Dg xs) (k : xs ≠ [] → BP (xs.length - 1) ≤ val xs) : Nm xs := by
  refine ⟨h, fun hn e => ?_⟩
  have e2 : xs = xs.dropLast ++ [xs.getLast hn] := (List.dropLast_concat_getLast hn).symm
  have h1 := k hn
  rw [e] at e2
  have h2 : Dg xs.dropLast := fun x hx => h x ((List.dropLast_sublist xs).subset hx)
  have h3 := h2.val1
  rw [e2, val_snoc, Int.mul_zero, Int.add_zero] at h1
  rw [List.length_append, List.length_singleton, Nat.add_sub_cancel] at h1
  omega
theorem val_drop {xs : List Int} {i : Nat} (h : i < xs.length) : val (xs.drop i) = nth xs i + 100000000 * val (xs.drop (i + 1)) := by
  rw [List.drop_eq_getElem_cons h, val, nth_of_get? (List.getElem?_eq_getElem h)]
theorem val_split {xs : List Int} {i : Nat} (h : i ≤ xs.length) : val xs = val (xs.take i) + BP i * val (xs.drop i) := by
  conv => lhs; rw [← List.take_append_drop i xs]
  rw [val_append, List.length_take, Nat.min_eq_left h]
theorem val_set : ∀ {xs : List Int} {i : Nat} {v : Int}, i < xs.length → val (xs.set i v) = val xs + BP i * (v - nth xs i)
  | [], _, _, h => by simp at h
  | x :: xs, 0, v, _ => by simp only [List.set_cons_zero, val, BP, Int.pow_zero]; show _ = _ + 1 * (v - x); omega
  | x :: xs, i + 1, v, h => by
    rw [List.set_cons_succ, val, val, val_set (by simpa using h), BP_succ, Int.mul_add, Int.mul_assoc]
    show _ = _ + 100000000 * (BP i * (v - nth xs i))
    omega
theorem Dg.set {xs : List Int} (h : Dg xs) {i : Nat} {v : Int} (h0 : 0 ≤ v) (h1 : v < 100000000) : Dg (xs.set i v) := fun x hx => by
  rcases List.mem_or_eq_of_mem_set hx with hx | rfl
  · exact h x hx
  · exact ⟨h0, h1⟩
theorem Dg.x {xs : List Int} (h : Dg xs) (i : Nat) : 0 ≤ xAt xs i ∧ xAt xs i < 100000000 := by
  unfold xAt; split
  · exact h.at (by assumption)
  · omega
theorem xAt_in {xs : List Int} {i : Nat} (h : i < xs.length) : xAt xs i = nth xs i := if_pos h
theorem xAt_out {xs : List Int} {i : Nat} (h : ¬ i < xs.length) : xAt xs i = 0 := if_neg h
theorem dg_rep {n : Nat} : Dg (List.replicate n 0) := fun x hx => by rw [List.eq_of_mem_replicate hx]; omega
theorem val_rep {n : Nat} : val (List.replicate n 0) = 0 := by
  induction n with
  | zero => rfl
  | succ n ih => rw [List.replicate_succ, val, ih]; omega
def adS (a b : List Int) : Nat → List Int × Int
  | 0 => ([], 0)
  | i + 1 => ((adS a b i).1 ++ [(nth a i + (adS a b i).2 + xAt b i) % 100000000], (nth a i + (adS a b i).2 + xAt b i) / 100000000)
theorem adS_len {a b : List Int} : ∀ {i : Nat}, (adS a b i).1.length = i
  | 0 => rfl
  | i + 1 => by rw [adS, List.length_append, adS_len]; rfl
theorem adS_dg {a b : List Int} : ∀ {i : Nat}, Dg (adS a b i).1
  | 0 => Dg.nil
  | i + 1 => by rw [adS]; exact adS_dg.snoc (Int.emod_nonneg _ (by omega)) (Int.emod_lt_of_pos _ (by omega))
theorem adS_c {a b : List Int} (ha : Dg a) (hb : Dg b) : ∀ {i : Nat}, i ≤ a.length → 0 ≤ (adS a b i).2 ∧ (adS a b i).2 ≤ 1
  | 0, _ => by simp [adS]
  | i + 1, h => by
    have := adS_c ha hb (i := i) (by omega)
    have := ha.at (i := i) (by omega)
    have := hb.x i
    rw [adS]; simp only; omega
theorem mul_div_BP {n : Nat} (x : Int) : BP n * x = BP n * (x % 100000000) + BP (n + 1) * (x / 100000000) := by
  have h := Int.emod_add_mul_ediv x 100000000
  rw [BP_succ, Int.mul_comm 100000000 (BP n), Int.mul_assoc, ← Int.mul_add, h]
theorem adS_val {a b : List Int} : ∀ {i : Nat}, i ≤ a.length → val (adS a b i).1 + BP i * (adS a b i).2 = val (a.take i) + val (b.take i)
  | 0, _ => by simp [adS, val]
  | i + 1, h => by
    have ih := adS_val (a := a) (b := b) (i := i) (by omega)
    have e := mul_div_BP (n := i) (nth a i + (adS a b i).2 + xAt b i)
    rw [Int.mul_add, Int.mul_add] at e
    rw [adS, take_val (xs := a), take_val (xs := b), val_snoc, adS_len, xAt_in (xs := a) (by omega)]
    dsimp only
    omega
theorem add_zero {a b : List Int} (ha : Nm a) (hb : Nm b) (hl : b.length ≤ a.length) (h : (adS a b a.length).2 = 0) : (adS a b a.length).1 = digN (val a + val b).toNat := by
  have hv := adS_val (a := a) (b := b) (Nat.le_refl _)
  rw [h, Int.mul_zero, Int.add_zero, List.take_length, List.take_of_length_le hl] at hv
  have h0 := ha.dg.val0; have h1 := hb.dg.val0
  refine digN_of (nm_of_low adS_dg fun hn => ?_) (by rw [hv]; omega)
  have hne : a ≠ [] := fun e => hn (List.eq_nil_of_length_eq_zero (by rw [adS_len, e]; rfl))
  have := ha.low hne
  rw [adS_len, hv]; omega
theorem add_one {a b : List Int} (ha : Nm a) (hb : Nm b) (hl : b.length ≤ a.length) (h : (adS a b a.length).2 = 1) : (adS a b a.length).1 ++ [1] = digN (val a + val b).toNat := by
  have hv := adS_val (a := a) (b := b) (Nat.le_refl _)
  rw [h, Int.mul_one, List.take_length, List.take_of_length_le hl] at hv
  have h0 := ha.dg.val0; have h1 := hb.dg.val0
  have h2 : val ((adS a b a.length).1 ++ [1]) = val a + val b := by rw [val_snoc, adS_len]; omega
  refine digN_of (nm_of_low (adS_dg.snoc (by omega) (by omega)) fun _ => ?_) (by rw [h2]; omega)
  have := (adS_dg (a := a) (b := b) (i := a.length)).val0
  rw [h2, List.length_append, adS_len, List.length_singleton, Nat.add_sub_cancel]; omega
def sb (a b : List Int) : Nat → Int
  | 0 => 0
  | k + 1 => if nth a k - sb a b k - xAt b k < 0 then 1 else 0
theorem sb_01 {a b : List Int} : ∀ {k : Nat}, sb a b k = 0 ∨ sb a b k = 1
  | 0 => .inl rfl
  | k + 1 => by rw [sb]; split; exact .inr rfl; exact .inl rfl
def sbD (a b : List Int) (j : Nat) : Int := if nth a j - sb a b j - xAt b j < 0 then nth a j - sb a b j - xAt b j + 100000000 else nth a j - sb a b j - xAt b j
def sbL (a b : List Int) (k : Nat) : List Int := tab a.length fun j => if j < k then sbD a b j else nth a j
theorem sbL_len {a b : List Int} {k : Nat} : (sbL a b k).length = a.length := tab_len
theorem sbL_zero {a b : List Int} : a = sbL a b 0 := by
  unfold sbL
  exact (tab_nth rfl).trans (tab_congr fun j _ => by rw [if_neg (by omega)])
theorem sbL_at {a b : List Int} {k : Nat} (h : k < a.length) : nth (sbL a b k) k = nth a k := by unfold sbL; rw [nth_tab h, if_neg (by omega)]
theorem sbL_succ {a b : List Int} {k : Nat} : (sbL a b k).set k (sbD a b k) = sbL a b (k + 1) := by
  unfold sbL
  rw [tab_set]
  refine tab_congr fun j _ => ?_
  by_cases e : j = k
  · subst e; rw [if_pos rfl, if_pos (by omega)]
  · rw [if_neg e]
    by_cases h : j < k
    · rw [if_pos h, if_pos (by omega)]
    · rw [if_neg h, if_neg (by omega)]
theorem sbD_rng {a b : List Int} (ha : Dg a) (hb : Dg b) {j : Nat} (hj : j < a.length) : 0 ≤ sbD a b j ∧ sbD a b j < 100000000 := by
  have := ha.at hj
  have := hb.x j
  unfold sbD
  rcases sb_01 (a := a) (b := b) (k := j) with e | e <;> rw [e] <;> split <;> omega
theorem sb_val {a b : List Int} : ∀ {k : Nat}, k ≤ a.length → val (tab k (sbD a b)) = val (a.take k) - val (b.take k) + BP k * sb a b k
  | 0, _ => by simp [tab, val, sb]
  | k + 1, hk => by
    have ih := sb_val (a := a) (b := b) (k := k) (by omega)
    rw [tab_succ, val_snoc, tab_len, ih, take_val (xs := a), take_val (xs := b), xAt_in (xs := a) (by omega), BP_succ, sb]
    unfold sbD
    rw [Int.mul_comm 100000000 (BP k), Int.mul_assoc]
    split
    · rw [Int.mul_add, Int.mul_sub, Int.mul_sub]; omega
    · rw [Int.mul_sub, Int.mul_sub]; simp; omega
theorem sub_spec {a b : List Int} (ha : Dg a) (hb : Dg b) (hl : b.length ≤ a.length) (hle : val b ≤ val a) : trimL (sbL a b a.length) = digN (val a - val b).toNat := by
  have e1 : sbL a b a.length = tab a.length (sbD a b) := tab_congr fun j hj => if_pos hj
  have hd : Dg (tab a.length (sbD a b)) := fun x hx => by
    obtain ⟨j, hj, rfl⟩ := mem_nth hx
    rw [tab_len] at hj
    rw [nth_tab hj]; exact sbD_rng ha hb hj
  have hv := sb_val (a := a) (b := b) (Nat.le_refl _)
  rw [List.take_length, List.take_of_length_le hl] at hv
  have h1 := hd.val1
  rw [tab_len] at h1
  have hz : sb a b a.length = 0 := by
    rcases sb_01 (a := a) (b := b) (k := a.length) with e | e
    · exact e
    · rw [e, Int.mul_one] at hv; omega
  rw [hz, Int.mul_zero, Int.add_zero] at hv
  rw [e1]
  exact trim_dig hd (by rw [hv]; omega)
theorem cmp_len {a b : List Int} (ha : Nm a) (hb : Nm b) (h : a.length < b.length) : val a < val b := by
  have h1 := ha.dg.val1
  have h2 := hb.low (fun e => by rw [e] at h; simp at h)
  have := BP_mono (show a.length ≤ b.length - 1 by omega)
  omega
theorem cmp_at {a b : List Int} (ha : Dg a) (hb : Dg b) (hl : a.length = b.length) {i : Nat} (hi : i < a.length) (h : ∀ j, i < j → j < a.length → nth a j = nth b j) (hlt : nth a i < nth b i) : val a < val b := by
  have e : a.drop (i + 1) = b.drop (i + 1) := by
    refine ext_nth (by simp [hl]) fun j hj => ?_
    rw [List.length_drop] at hj
    have := h (i + 1 + j) (by omega) (by omega)
    unfold nth at this ⊢
    simpa [List.getD_eq_getElem?_getD, List.getElem?_drop] using this
  have h1 := val_split (xs := a) (i := i) (by omega)
  have h2 := val_split (xs := b) (i := i) (by omega)
  rw [val_drop hi] at h1
  rw [val_drop (by omega), ← e] at h2
  have h3 := (ha.take i).val1
  have h4 := (hb.take i).val0
  rw [List.length_take, Nat.min_eq_left (by omega)] at h3
  have h5 : BP i * (nth a i + 100000000 * val (a.drop (i + 1)) + 1) ≤ BP i * (nth b i + 100000000 * val (a.drop (i + 1))) := Int.mul_le_mul_of_nonneg_left (by omega) (Int.le_of_lt (BP_pos i))
  rw [Int.mul_add, Int.mul_one] at h5
  omega
theorem cmp_eq {a b : List Int} (hl : a.length = b.length) (h : ∀ j, j < a.length → nth a j = nth b j) : a = b := ext_nth hl h
def cmpZ (x y : Int) : Int := if x < y then -1 else if y < x then 1 else 0
structure MuS (a b o : List Int) (i k : Nat) (c : Int) : Prop where
  len : o.length = a.length + b.length
  dg : Dg o
  c0 : 0 ≤ c ∧ c < 100000000
  z : ∀ j, i + b.length ≤ j → j < o.length → nth o j = 0
  v : val o + BP (i + k) * c = val (a.take i) * val b + BP i * nth a i * val (b.take k)
structure MuR (a b o : List Int) (i : Nat) : Prop where
  len : o.length = a.length + b.length
  dg : Dg o
  z : ∀ j, i + b.length ≤ j → j < o.length → nth o j = 0
  v : val o = val (a.take i) * val b
section
variable {a b o : List Int} {i k : Nat} {c : Int}
theorem MuR.start : MuR a b (List.replicate (a.length + b.length) 0) 0 :=
  ⟨by simp, dg_rep, fun j _ hj => nth_rep (by simpa using hj), by rw [val_rep]; simp [val]⟩
theorem MuR.row (h : MuR a b o i) : MuS a b o i 0 0 := ⟨h.len, h.dg, by omega, h.z, by rw [h.v]; simp [val]⟩
theorem MuS.n (ha : Dg a) (hb : Dg b) (h : MuS a b o i k c) (hi : i < a.length) (hk : k < b.length) : 0 ≤ nth o (i + k) ∧ nth o (i + k) < 100000000 ∧ 0 ≤ nth a i * nth b k ∧ nth a i * nth b k ≤ 9999999800000001 := by
  have h1 := h.dg.at (i := i + k) (by rw [h.len]; omega)
  have h2 := ha.at hi
  have h3 := hb.at hk
  refine ⟨h1.1, h1.2, Int.mul_nonneg h2.1 h3.1, ?_⟩
  have : nth a i * nth b k ≤ 99999999 * 99999999 := Int.mul_le_mul (by omega) (by omega) h3.1 (by omega)
  omega
theorem MuS.next (ha : Dg a) (hb : Dg b) (h : MuS a b o i k c) (hi : i < a.length) (hk : k < b.length) : MuS a b (o.set (i + k) ((nth o (i + k) + nth a i * nth b k + c) % 100000000)) i (k + 1) ((nth o (i + k) + nth a i * nth b k + c) / 100000000) := by
  obtain ⟨n1, n2, n3, n4⟩ := h.n ha hb hi hk
  have hc := h.c0
  have hik : i + k < o.length := by rw [h.len]; omega
  refine ⟨by rw [List.length_set]; exact h.len, h.dg.set (Int.emod_nonneg _ (by omega)) (Int.emod_lt_of_pos _ (by omega)), by omega, fun j h1 h2 => ?_, ?_⟩
  · rw [List.length_set] at h2
    rw [nth_set h2, if_neg (by omega)]; exact h.z j h1 h2
  · have e := mul_div_BP (n := i + k) (nth o (i + k) + nth a i * nth b k + c)
    rw [Int.mul_add, Int.mul_add] at e
    have hv := h.v
    have e2 : BP i * nth a i * val (b.take (k + 1)) = BP i * nth a i * val (b.take k) + BP (i + k) * (nth a i * nth b k) := by
      rw [take_val, xAt_in hk, Int.mul_add, BP_add]
      congr 1
      rw [Int.mul_assoc, Int.mul_assoc, Int.mul_left_comm (nth a i)]
    rw [val_set hik, e2, Int.mul_sub, ← Nat.add_assoc]
    omega
theorem MuS.done (h : MuS a b o i b.length c) (hi : i < a.length) : MuR a b (o.set (i + b.length) c) (i + 1) := by
  have hl : i + b.length < o.length := by rw [h.len]; omega
  have hz := h.z (i + b.length) (Nat.le_refl _) hl
  refine ⟨by rw [List.length_set]; exact h.len, h.dg.set h.c0.1 h.c0.2, fun j h1 h2 => ?_, ?_⟩
  · rw [List.length_set] at h2
    rw [nth_set h2, if_neg (by omega)]; exact h.z j (by omega) h2
  · have hv := h.v
    rw [List.take_length] at hv
    rw [val_set hl, hz, Int.sub_zero, take_val, xAt_in hi, Int.add_mul]; exact hv
theorem MuR.fin (h : MuR a b o a.length) (ha : Dg a) (hb : Dg b) : trimL o = digN (val a * val b).toNat := by
  have hv := h.v
  rw [List.take_length] at hv
  have := Int.mul_nonneg ha.val0 hb.val0
  exact trim_dig h.dg (by rw [hv]; omega)
end
structure ShS (a o : List Int) (n : Int) (i : Nat) (r : Int) : Prop where
  len : o.length = a.length
  dg : Dg o
  r0 : 0 ≤ r ∧ r < n
  z : ∀ j, j < i → j < o.length → nth o j = 0
  v : val (a.drop i) = n * val (o.drop i) + r
section
variable {a o : List Int} {n r : Int} {i : Nat}
theorem ShS.start (hn : 0 < n) : ShS a (List.replicate a.length 0) n a.length 0 :=
  ⟨by simp, dg_rep, by omega, fun j h _ => nth_rep h, by rw [List.drop_length, List.drop_of_length_le (by simp)]; simp [val]⟩
theorem ShS.q (ha : Dg a) (h : ShS a o n (i + 1) r) (hi : i < a.length) : 0 ≤ (r * 100000000 + nth a i) / n ∧ (r * 100000000 + nth a i) / n < 100000000 ∧ 0 ≤ (r * 100000000 + nth a i) % n ∧ (r * 100000000 + nth a i) % n < n := by
  have h1 := ha.at hi
  have h2 := h.r0
  refine ⟨Int.ediv_nonneg (by omega) (by omega), Int.ediv_lt_of_lt_mul (by omega) ?_, Int.emod_nonneg _ (by omega), Int.emod_lt_of_pos _ (by omega)⟩
  have : (r + 1) * 100000000 ≤ n * 100000000 := Int.mul_le_mul_of_nonneg_right (by omega) (by omega)
  rw [Int.mul_comm 100000000 n]; omega
theorem ShS.next (ha : Dg a) (h : ShS a o n (i + 1) r) (hi : i < a.length) : ShS a (o.set i ((r * 100000000 + nth a i) / n)) n i ((r * 100000000 + nth a i) % n) := by
  obtain ⟨q1, q2, q3, q4⟩ := h.q ha hi
  have hl := h.len
  refine ⟨by rw [List.length_set]; exact hl, h.dg.set q1 q2, ⟨q3, q4⟩, fun j h1 h2 => ?_, ?_⟩
  · rw [List.length_set] at h2
    rw [nth_set h2, if_neg (by omega)]; exact h.z j (by omega) h2
  · have e := Int.emod_add_mul_ediv (r * 100000000 + nth a i) n
    rw [val_drop hi, h.v, val_drop (xs := o.set i _) (by rw [List.length_set]; omega), nth_set (by omega), if_pos rfl, List.drop_set_of_lt (by omega), Int.mul_add, Int.mul_add, Int.mul_left_comm n 100000000]
    omega
theorem ShS.fin (h : ShS a o n 0 r) : trimL o = digN (val a / n).toNat ∧ r = val a % n := by
  have hv := h.v
  rw [List.drop_zero, List.drop_zero] at hv
  have hr := h.r0
  have e1 : val a / n = val o := by rw [hv, Int.mul_add_ediv_left _ _ (by omega), Int.ediv_eq_zero_of_lt hr.1 hr.2]; omega
  have e2 : val a % n = r := by rw [hv, Int.mul_add_emod_self_left, Int.emod_eq_of_lt hr.1 hr.2]
  have h0 := h.dg.val0
  exact ⟨trim_dig h.dg (by rw [e1]; omega), e2.symm⟩
end
end Go.Fl

/- Long division of digits. Plain Lean, no program in sight. -/
namespace Go.Fl
theorem hi_zero {xs : List Int} (h : Dg xs) {n : Nat} (hv : val xs < BP n) {k : Nat} (hk : n ≤ k) (hl : k < xs.length) : nth xs k = 0 := by
  have h1 := h.at hl
  have h2 := val_split (xs := xs) (i := k) (by omega)
  have h3 := (h.take k).val0
  have hd : Dg (xs.drop (k + 1)) := fun x hx => h x (List.mem_of_mem_drop hx)
  have h4 := hd.val0
  rw [val_drop hl] at h2
  have h5 := BP_mono hk
  refine Classical.byContradiction fun hne => ?_
  have h6 : BP k * 1 ≤ BP k * (nth xs k + 100000000 * val (xs.drop (k + 1))) := Int.mul_le_mul_of_nonneg_left (by omega) (Int.le_of_lt (BP_pos k))
  omega
structure LgS (u0 v : List Int) (j : Nat) (s : Int) (u : List Int) (i : Nat) (c : Int) : Prop where
  len : u.length = u0.length
  same : ∀ k, k < j ∨ j + i ≤ k → nth u k = nth u0 k
  dg : ∀ k, j ≤ k → k < j + i → 0 ≤ nth u k ∧ nth u k < 100000000
  v : val u + BP (j + i) * c = val u0 + s * BP j * val (v.take i)
  cb : -100000000 ≤ c ∧ c ≤ 1
section
variable {u0 v u : List Int} {j i : Nat} {s c : Int}
theorem LgS.start : LgS u0 v j s u0 0 0 := ⟨rfl, fun _ _ => rfl, fun _ _ _ => by omega, by simp [val], by omega⟩
theorem LgS.b (hv : Dg v) (hs : -99999999 ≤ s ∧ s ≤ 1) (hi : i < v.length) : -9999999800000001 ≤ s * nth v i ∧ s * nth v i ≤ 99999999 := by
  have h1 := hv.at hi
  constructor
  · have h2 : (-s) * nth v i ≤ 99999999 * 99999999 := by
      by_cases hp : 0 ≤ -s
      · exact Int.mul_le_mul (by omega) (by omega) h1.1 (by omega)
      · have : (-s) * nth v i ≤ 0 * nth v i := Int.mul_le_mul_of_nonneg_right (by omega) h1.1
        omega
    rw [Int.neg_mul] at h2; omega
  · have h2 : s * nth v i ≤ 1 * nth v i := Int.mul_le_mul_of_nonneg_right hs.2 h1.1
    omega
theorem LgS.next (hv : Dg v) (hs : -99999999 ≤ s ∧ s ≤ 1) (h : LgS u0 v j s u i c) (hi : i < v.length) (hl : j + i < u0.length) (hu : 0 ≤ nth u0 (j + i) ∧ nth u0 (j + i) < 100000000) :
    nth u (j + i) = nth u0 (j + i) ∧ LgS u0 v j s (u.set (j + i) ((nth u0 (j + i) + s * nth v i + c) % 100000000)) (i + 1) ((nth u0 (j + i) + s * nth v i + c) / 100000000) := by
  have hb := LgS.b hv hs hi
  have hc := h.cb
  have he := h.same (j + i) (.inr (Nat.le_refl _))
  have hul := h.len
  refine ⟨he, by rw [List.length_set]; exact hul, fun k hk => ?_, fun k h1 h2 => ?_, ?_, ?_⟩
  · by_cases hkl : k < u.length
    · rw [nth_set hkl, if_neg (by omega)]; exact h.same k (by omega)
    · have e1 : ∀ y : Int, nth (u.set (j + i) y) k = nth u k := fun y => by
        unfold nth
        simp only [List.getD_eq_getElem?_getD]
        rw [List.getElem?_eq_none (show (u.set (j + i) y).length ≤ k by rw [List.length_set]; omega), List.getElem?_eq_none (show u.length ≤ k by omega)]
      rw [e1]; exact h.same k (by omega)
  · have hkl : k < u.length := by omega
    rw [nth_set hkl]
    by_cases e : j + i = k
    · rw [if_pos e]; exact ⟨Int.emod_nonneg _ (by omega), Int.emod_lt_of_pos _ (by omega)⟩
    · rw [if_neg e]; exact h.dg k h1 (by omega)
  · have e := mul_div_BP (n := j + i) (nth u0 (j + i) + s * nth v i + c)
    rw [Int.mul_add, Int.mul_add] at e
    have hv' := h.v
    have e2 : s * BP j * val (v.take (i + 1)) = s * BP j * val (v.take i) + BP (j + i) * (s * nth v i) := by
      rw [take_val, xAt_in hi, Int.mul_add, BP_add]
      congr 1
      rw [Int.mul_comm s (BP j), Int.mul_assoc, Int.mul_assoc, Int.mul_left_comm s]
    rw [val_set (by omega), he, e2, Int.mul_sub, ← Nat.add_assoc]
    omega
  · constructor
    · omega
    · omega
theorem LgS.done (h : LgS u0 v j s u v.length c) (hl : j + v.length < u0.length) : nth u (j + v.length) = nth u0 (j + v.length) ∧ val (u.set (j + v.length) (nth u (j + v.length) + c)) = val u0 + s * BP j * val v := by
  have hv := h.v
  rw [List.take_length] at hv
  refine ⟨h.same _ (.inr (Nat.le_refl _)), ?_⟩
  rw [val_set (by rw [h.len]; exact hl), ← hv]
  congr 1
  rw [Int.add_comm (nth u _), Int.add_sub_cancel]
end
structure LgW (u0 : List Int) (j n : Nat) (T V : Int) (u : List Int) (g : Int) : Prop where
  len : u.length = u0.length
  dg : ∀ k, k < u.length → k ≠ j + n → 0 ≤ nth u k ∧ nth u k < 100000000
  hi : ∀ k, j + n < k → k < u.length → nth u k = 0
  low : u.take j = u0.take j
  v : val u = val u0 - g * BP j * V
  g0 : T / V ≤ g
  g1 : g ≤ 99999999
section
variable {u0 u : List Int} {j n : Nat} {T V g : Int}
theorem LgW.t (h : LgW u0 j n T V u g) (hl : j + n < u0.length) (hT : T = val (u0.drop j)) : val (u.drop j) = T - g * V := by
  have h1 := val_split (xs := u) (i := j) (by rw [h.len]; omega)
  have h2 := val_split (xs := u0) (i := j) (by omega)
  have h3 := h.v
  rw [h1, h2, h.low, ← hT] at h3
  have h4 : BP j * val (u.drop j) = BP j * (T - g * V) := by
    rw [Int.mul_sub, show BP j * (g * V) = g * BP j * V by rw [Int.mul_comm g (BP j), Int.mul_assoc]]; omega
  exact Int.eq_of_mul_eq_mul_left (by have := BP_pos j; omega) h4
theorem LgW.top (h : LgW u0 j n T V u g) (hl : j + n < u0.length) : ∃ lo, 0 ≤ lo ∧ lo < BP n ∧ val (u.drop j) = lo + BP n * nth u (j + n) := by
  have hlen := h.len
  have h1 := val_split (xs := u.drop j) (i := n) (by rw [List.length_drop]; omega)
  have hd : Dg ((u.drop j).take n) := fun x hx => by
    obtain ⟨i, hi, rfl⟩ := mem_nth hx
    rw [List.length_take, List.length_drop] at hi
    have e : nth ((u.drop j).take n) i = nth u (j + i) := by
      unfold nth
      simp only [List.getD_eq_getElem?_getD, List.getElem?_take, List.getElem?_drop]
      rw [if_pos (by omega)]
    rw [e]; exact h.dg _ (by omega) (by omega)
  have hz : val ((u.drop j).drop n) = nth u (j + n) := by
    rw [List.drop_drop, val_drop (by omega)]
    have : val (u.drop (j + n + 1)) = 0 := by
      have hr : u.drop (j + n + 1) = List.replicate (u.drop (j + n + 1)).length 0 := List.eq_replicate_of_mem fun x hx => by
        obtain ⟨i, hi, rfl⟩ := mem_nth hx
        rw [List.length_drop] at hi
        have e : nth (u.drop (j + n + 1)) i = nth u (j + n + 1 + i) := by
          unfold nth
          simp only [List.getD_eq_getElem?_getD, List.getElem?_drop]
        rw [e]; exact h.hi _ (by omega) (by omega)
      rw [hr, val_rep]
    rw [this]; omega
  have h2 := hd.val1
  rw [List.length_take, List.length_drop, Nat.min_eq_left (by omega)] at h2
  exact ⟨_, hd.val0, h2, by rw [h1, hz]⟩
theorem LgW.lt (h : LgW u0 j n T V u g) (hl : j + n < u0.length) (hT : T = val (u0.drop j)) (hn : nth u (j + n) < 0) (hV : 0 < V) : T / V < g := by
  obtain ⟨lo, h1, h2, h3⟩ := h.top hl
  rw [h.t hl hT] at h3
  have h4 : BP n * nth u (j + n) ≤ BP n * (-1) := Int.mul_le_mul_of_nonneg_left (by omega) (Int.le_of_lt (BP_pos n))
  have h5 : T < g * V := by omega
  exact Int.ediv_lt_of_lt_mul hV h5
theorem LgW.ge (h : LgW u0 j n T V u g) (hl : j + n < u0.length) (hT : T = val (u0.drop j)) (hn : 0 ≤ nth u (j + n)) (hV : 0 < V) (hVn : V < BP n) : g = T / V ∧ Dg u ∧ val (u.drop j) < V := by
  obtain ⟨lo, h1, h2, h3⟩ := h.top hl
  have h4 : 0 ≤ BP n * nth u (j + n) := Int.mul_nonneg (Int.le_of_lt (BP_pos n)) hn
  have ht := h.t hl hT
  have h5 : g * V ≤ T := by omega
  have hg : g = T / V := Int.le_antisymm ((Int.le_ediv_iff_mul_le hV).2 h5) h.g0
  have h6 : val (u.drop j) < V := by
    rw [ht, hg]
    have := Int.emod_lt_of_pos T hV
    have e := Int.emod_add_mul_ediv T V
    rw [Int.mul_comm] at e
    omega
  refine ⟨hg, fun x hx => ?_, h6⟩
  obtain ⟨k, hk, rfl⟩ := mem_nth hx
  by_cases e : k = j + n
  · subst e
    refine ⟨hn, ?_⟩
    have : nth u (j + n) = 0 := by
      refine Classical.byContradiction fun hne => ?_
      have : BP n * 1 ≤ BP n * nth u (j + n) := Int.mul_le_mul_of_nonneg_left (by omega) (Int.le_of_lt (BP_pos n))
      omega
    omega
  · exact h.dg k hk e
end
theorem guess_ge {T V t vt : Int} {n : Nat} (hV : vt * BP n ≤ V) (hvt : 0 < vt) (hT : T < (t + 1) * BP n) (hT2 : T < 100000000 * V) (h0 : 0 ≤ T) : T / V ≤ (if 99999999 < t / vt then 99999999 else t / vt) ∧ 0 ≤ T / V := by
  have hp := BP_pos n
  have hVp : 0 < V := by
    have : 0 < vt * BP n := Int.mul_pos hvt hp
    omega
  have h1 : T / V < 100000000 := Int.ediv_lt_of_lt_mul hVp hT2
  have hq0 : 0 ≤ T / V := Int.ediv_nonneg h0 (by omega)
  have h2 : T / V * V ≤ T := Int.ediv_mul_le T (by omega)
  have h3 : T / V * (vt * BP n) ≤ T / V * V := Int.mul_le_mul_of_nonneg_left hV hq0
  have h4 : T / V * vt * BP n < (t + 1) * BP n := by rw [Int.mul_assoc]; omega
  have h5 : T / V * vt < t + 1 := Int.lt_of_mul_lt_mul_right h4 (Int.le_of_lt hp)
  have h6 : T / V ≤ t / vt := (Int.le_ediv_iff_mul_le hvt).2 (by omega)
  refine ⟨?_, hq0⟩
  split <;> omega
structure LgR (A V : Int) (n : Nat) (u out : List Int) (j : Nat) : Prop where
  lu : u.length = out.length + n
  dg : Dg u
  do_ : Dg out
  jo : j ≤ out.length
  lt : val (u.drop j) < V
  v : A = V * BP j * val (out.drop j) + val u
section
variable {A V T g : Int} {n j : Nat} {u out u' v : List Int}
theorem LgR.gs (hv : Nm v) (hn : v.length = n) (h2 : 2 ≤ n) (h : LgR A (val v) n u out (j + 1)) :
    val (u.drop j) / val v ≤ (if 99999999 < (nth u (j + n) * 100000000 + nth u (j + n - 1)) / nth v (n - 1) then 99999999 else (nth u (j + n) * 100000000 + nth u (j + n - 1)) / nth v (n - 1)) ∧ 0 ≤ val (u.drop j) / val v ∧ 0 < nth v (n - 1) ∧ (∀ k, j + n < k → k < u.length → nth u k = 0) ∧ val v < BP n := by
  have hlu := h.lu
  have hjo := h.jo
  have hne : v ≠ [] := fun e => by rw [e] at hn; simp at hn; omega
  have hvlt := hv.dg.val1
  rw [hn] at hvlt
  have hd1 : Dg (u.drop (j + 1)) := fun x hx => h.dg x (List.mem_of_mem_drop hx)
  have hd0 : Dg (u.drop j) := fun x hx => h.dg x (List.mem_of_mem_drop hx)
  have hz : ∀ k, j + n < k → k < u.length → nth u k = 0 := fun k h3 h4 => by
    have := hi_zero hd1 (n := n) (by have := h.lt; omega) (k := k - (j + 1)) (by omega) (by rw [List.length_drop]; omega)
    unfold nth at this ⊢
    simp only [List.getD_eq_getElem?_getD, List.getElem?_drop] at this ⊢
    rwa [show j + 1 + (k - (j + 1)) = k by omega] at this
  have hvt : 0 < nth v (n - 1) := by
    have h3 := hv.last hne
    have h4 : nth v (n - 1) = v.getLast hne := by
      rw [List.getLast_eq_getElem]
      exact nth_of_get? (by rw [← hn]; exact List.getElem?_eq_getElem _)
    rw [h4]
    have := hv.dg _ (List.getLast_mem hne)
    omega
  have hV : nth v (n - 1) * BP (n - 1) ≤ val v := by
    have h3 := val_split (xs := v) (i := n - 1) (by omega)
    have h4 := (hv.dg.take (n - 1)).val0
    have h5 : v.drop (n - 1) = [nth v (n - 1)] := by
      rw [List.drop_eq_getElem_cons (by omega), List.drop_of_length_le (by omega)]
      congr 1
      exact (nth_of_get? (List.getElem?_eq_getElem (by omega))).symm
    rw [h5] at h3
    simp only [val, Int.mul_zero, Int.add_zero] at h3
    rw [Int.mul_comm]; omega
  have hT0 := hd0.val0
  have hT1 : val (u.drop j) < 100000000 * val v := by
    rw [val_drop (by omega)]
    have := h.dg.at (i := j) (by omega)
    have := h.lt
    omega
  have hT2 : val (u.drop j) < (nth u (j + n) * 100000000 + nth u (j + n - 1) + 1) * BP (n - 1) := by
    have h3 := val_split (xs := u.drop j) (i := n - 1) (by rw [List.length_drop]; omega)
    have hdt : Dg ((u.drop j).take (n - 1)) := hd0.take _
    have h4 := hdt.val1
    rw [List.length_take, List.length_drop, Nat.min_eq_left (by omega)] at h4
    have h6 := val_drop (xs := u) (i := j + (n - 1)) (by omega)
    have h7 := val_drop (xs := u) (i := j + n) (by omega)
    rw [show j + (n - 1) + 1 = j + n by omega] at h6
    rw [List.drop_drop, h6, h7] at h3
    have h5 : val (u.drop (j + n + 1)) = 0 := by
      have hr : u.drop (j + n + 1) = List.replicate (u.drop (j + n + 1)).length 0 := List.eq_replicate_of_mem fun x hx => by
        obtain ⟨i, hi, rfl⟩ := mem_nth hx
        rw [List.length_drop] at hi
        have e : nth (u.drop (j + n + 1)) i = nth u (j + n + 1 + i) := by
          unfold nth
          simp only [List.getD_eq_getElem?_getD, List.getElem?_drop]
        rw [e]; exact hz _ (by omega) (by omega)
      rw [hr, val_rep]
    rw [h5, Int.mul_zero, Int.add_zero] at h3
    rw [h3, show j + (n - 1) = j + n - 1 by omega, Int.add_mul, Int.one_mul, Int.mul_comm (nth u (j + n) * 100000000 + nth u (j + n - 1)), Int.mul_comm 100000000 (nth u (j + n)), Int.add_comm (nth u (j + n) * 100000000)]
    omega
  obtain ⟨g1, g2⟩ := guess_ge hV hvt hT2 hT1 hT0
  exact ⟨g1, g2, hvt, hz, hvlt⟩
theorem LgW.mk' (h : LgR A V n u out (j + 1)) (_hn : j + n < u.length) {s : Int} (hs : LgS u v j (-s) u' n T) (hvn : v.length = n) (hV : val v = V) (hz : ∀ k, j + n < k → k < u.length → nth u k = 0) (hg : val (u.drop j) / V ≤ s) (hg1 : s ≤ 99999999) :
    LgW u j n (val (u.drop j)) V (u'.set (j + n) (nth u' (j + n) + T)) s := by
  have hl := hs.len
  subst hvn
  obtain ⟨e1, e2⟩ := hs.done (by omega)
  refine ⟨by rw [List.length_set]; exact hl, fun k hk hne => ?_, fun k h1 h2 => ?_, ?_, ?_, hg, hg1⟩
  · rw [List.length_set] at hk
    rw [nth_set hk, if_neg (fun e => hne e.symm)]
    by_cases hc : k < j ∨ j + v.length ≤ k
    · rw [hs.same k hc]; exact h.dg.at (by omega)
    · exact hs.dg k (by omega) (by omega)
  · rw [List.length_set] at h2
    rw [nth_set h2, if_neg (by omega), hs.same k (by omega)]
    exact hz k h1 (by omega)
  · refine ext_nth (by simp [hl]) fun k hk => ?_
    rw [List.length_take, List.length_set] at hk
    have e : ∀ {xs : List Int}, nth (xs.take j) k = nth xs k := fun {xs} => by
      unfold nth
      simp only [List.getD_eq_getElem?_getD, List.getElem?_take]
      rw [if_pos (by omega)]
    rw [e, e, nth_set (by omega), if_neg (by omega)]
    exact hs.same k (.inl (by omega))
  · rw [e2, hV, Int.neg_mul, Int.neg_mul]; omega
theorem LgW.back (h : LgW u j n T V u' g) (hl : j + n < u.length) (hT : T = val (u.drop j)) (hn : nth u' (j + n) < 0) (hVp : 0 < V) {u2 : List Int} {c : Int} (hs : LgS u' v j 1 u2 n c) (hvn : v.length = n) (hV : val v = V) :
    LgW u j n T V (u2.set (j + n) (nth u2 (j + n) + c)) (g - 1) := by
  have hlt := h.lt hl hT hn hVp
  have hlen := h.len
  have hl2 := hs.len
  subst hvn
  obtain ⟨e1, e2⟩ := hs.done (by omega)
  refine ⟨by rw [List.length_set]; omega, fun k hk hne => ?_, fun k h1 h2 => ?_, ?_, ?_, by omega, by have := h.g1; omega⟩
  · rw [List.length_set] at hk
    rw [nth_set hk, if_neg (fun e => hne e.symm)]
    by_cases hc : k < j ∨ j + v.length ≤ k
    · rw [hs.same k hc]; exact h.dg k (by omega) hne
    · exact hs.dg k (by omega) (by omega)
  · rw [List.length_set] at h2
    rw [nth_set h2, if_neg (by omega), hs.same k (by omega)]
    exact h.hi k h1 (by omega)
  · rw [← h.low]
    refine ext_nth (by simp [hl2]) fun k hk => ?_
    rw [List.length_take, List.length_set] at hk
    have e : ∀ {xs : List Int}, nth (xs.take j) k = nth xs k := fun {xs} => by
      unfold nth
      simp only [List.getD_eq_getElem?_getD, List.getElem?_take]
      rw [if_pos (by omega)]
    rw [e, e, nth_set (by omega), if_neg (by omega)]
    exact hs.same k (.inl (by omega))
  · rw [e2, h.v, hV, Int.one_mul, Int.sub_mul, Int.sub_mul, Int.one_mul]; omega
theorem LgR.next (h : LgR A V n u out (j + 1)) (hw : LgW u j n (val (u.drop j)) V u' g) (hl : j + n < u.length) (hn : 0 ≤ nth u' (j + n)) (hV : 0 < V) (hVn : V < BP n) : LgR A V n u' (out.set j g) j := by
  obtain ⟨e1, e2, e3⟩ := hw.ge hl rfl hn hV hVn
  have hjo := h.jo
  have h0 : Dg (u.drop j) := fun x hx => h.dg x (List.mem_of_mem_drop hx)
  have hg0 : 0 ≤ g := by rw [e1]; exact Int.ediv_nonneg h0.val0 (by omega)
  have := hw.g1
  refine ⟨by rw [hw.len, h.lu, List.length_set], e2, h.do_.set hg0 (by omega), by rw [List.length_set]; omega, e3, ?_⟩
  rw [val_drop (xs := out.set j g) (by rw [List.length_set]; omega), nth_set (by omega), if_pos rfl, List.drop_set_of_lt (by omega), hw.v, h.v, BP_succ, Int.mul_add, show V * BP j * g = g * BP j * V by rw [Int.mul_comm V, Int.mul_comm (BP j * V), Int.mul_assoc], show V * (100000000 * BP j) = V * BP j * 100000000 by rw [Int.mul_comm 100000000 (BP j), Int.mul_assoc], Int.mul_assoc (V * BP j)]
  omega
theorem LgR.fin (h : LgR A V n u out 0) (hV : 0 < V) : val out = A / V ∧ val u = A % V ∧ Dg out ∧ Dg u := by
  have hv := h.v
  have hlt := h.lt
  rw [List.drop_zero] at hv hlt
  simp only [BP, Int.pow_zero, Int.mul_one] at hv
  have h0 := h.dg.val0
  refine ⟨?_, ?_, h.do_, h.dg⟩
  · rw [hv, Int.mul_add_ediv_left _ _ (by omega), Int.ediv_eq_zero_of_lt h0 hlt]; omega
  · rw [hv, Int.mul_add_emod_self_left, Int.emod_eq_of_lt h0 hlt]
theorem LgR.start {x : Int} (hx : 0 ≤ x) (hv : Nm v) (hn : v.length = n) (h2 : 2 ≤ n) (hle : n ≤ (digN x.toNat).length) : LgR x (val v) n (digN x.toNat ++ [0, 0]) (List.replicate ((digN x.toNat).length + 2 - n) 0) ((digN x.toNat).length + 2 - n) := by
  have hd := digN_dg x.toNat
  have hD : Dg (digN x.toNat ++ [0, 0]) := fun y hy => by
    rcases List.mem_append.1 hy with hy | hy
    · exact hd y hy
    · simp at hy; subst hy; omega
  have hval : val (digN x.toNat ++ [0, 0]) = x := by rw [val_append, digN_val]; simp [val]; omega
  have hne : v ≠ [] := fun e => by rw [e] at hn; simp at hn; omega
  refine ⟨by simp; omega, hD, dg_rep, by simp, ?_, ?_⟩
  · have h1 := hv.low hne
    rw [hn] at h1
    have e : (digN x.toNat ++ [0, 0]).drop ((digN x.toNat).length + 2 - n) = (digN x.toNat).drop ((digN x.toNat).length + 2 - n) ++ [0, 0] := List.drop_append_of_le_length (by omega)
    rw [e, val_append]
    have hdd : Dg ((digN x.toNat).drop ((digN x.toNat).length + 2 - n)) := fun y hy => hd y (List.mem_of_mem_drop hy)
    have h3 := hdd.val1
    rw [List.length_drop] at h3
    have h4 := BP_mono (show (digN x.toNat).length - ((digN x.toNat).length + 2 - n) ≤ n - 1 by omega)
    simp only [val]
    omega
  · rw [List.drop_of_length_le (by simp), hval]
    simp [val]
end
end Go.Fl

/- Integers: what the contracts of the package field lean on. Plain Lean, no program in sight. -/
namespace Go.Fl
theorem nth_take {α : Type} [Inhabited α] {xs : List α} {i m : Nat} (h : i < m) : nth (xs.take m) i = nth xs i := by simp [nth, List.getD, List.getElem?_take_of_lt h]
def wh (z : Int) : Bool × List Int := (decide (z < 0), digN z.natAbs)
theorem wh_mk {b : Bool} {ds : List Int} {z : Int} (hb : b = decide (z < 0)) (hd : ds = digN z.natAbs) : (b, ds) = wh z := by unfold wh; rw [hb, hd]
theorem wh_pos {ds : List Int} {z : Int} {n : Nat} (hz : z = n) (hd : ds = digN n) : (false, ds) = wh z := by subst hz; exact wh_mk (by simp) (by simpa using hd)
theorem wh_neg {ds : List Int} {z : Int} {n : Nat} (hz : z = -(n : Int)) (h0 : 0 < n) (hd : ds = digN n) : (true, ds) = wh z := wh_mk (by simp; omega) (by rw [hd, hz, Int.natAbs_neg, Int.natAbs_natCast])
theorem td8 (n : Int) : n = 100000000 * n.tdiv 100000000 + n.tmod 100000000 ∧ (0 ≤ n → 0 ≤ n.tmod 100000000 ∧ n.tmod 100000000 < 100000000) ∧ (n ≤ 0 → -100000000 < n.tmod 100000000 ∧ n.tmod 100000000 ≤ 0) := by
  have h := Int.mul_tdiv_add_tmod n 100000000
  refine ⟨by omega, fun h0 => ⟨Int.tmod_nonneg _ h0, ?_⟩, fun h0 => ?_⟩
  · exact Int.tmod_lt_of_pos n (by omega)
  · have h1 := Int.tmod_nonneg 100000000 (show 0 ≤ -n by omega)
    have h2 := Int.tmod_lt_of_pos (-n) (show (0 : Int) < 100000000 by omega)
    rw [Int.neg_tmod] at h1 h2
    omega
theorem rd_pos {xs : List Int} {i : Nat} (hi : xs.length ≤ i) (h : (rdS xs i).2 = 0) : (false, trimL (rdS xs i).1) = wh (val xs) := by
  have h1 := rdS_pos hi h
  have h0 := (rdS_dg (xs := xs) (i := i)).val0
  exact wh_pos (n := (val xs).toNat) (by omega) (trim_dig rdS_dg (by omega))
theorem bw_cm {ds : List Int} {k : Nat} : bw ds (k + 1) = if -(nth ds k) - bw ds k < 0 then 1 else 0 := rfl
theorem cm_v {ds : List Int} {k : Nat} (hk : k < ds.length) : nth ((cmL ds k).set k (-nth (cmL ds k) k - bw ds k)) k = -nth ds k - bw ds k := by
  rw [nth_set (by rw [cmL_len]; exact hk), if_pos rfl, cmL_at hk]
theorem cm_t {ds : List Int} {k : Nat} (hk : k < ds.length) (h : nth ((cmL ds k).set k (-nth (cmL ds k) k - bw ds k)) k < 0) :
    ((cmL ds k).set k (-nth (cmL ds k) k - bw ds k)).set k (nth ((cmL ds k).set k (-nth (cmL ds k) k - bw ds k)) k + 100000000) = cmL ds (k + 1) ∧ (1 : Int) = bw ds (k + 1) := by
  rw [cm_v hk] at h ⊢
  refine ⟨?_, by rw [bw_cm, if_pos h]⟩
  rw [List.set_set, ← cmL_succ]
  congr 1
  unfold cmD; rw [if_pos h]
theorem cm_f {ds : List Int} {k : Nat} (hk : k < ds.length) (h : 0 ≤ nth ((cmL ds k).set k (-nth (cmL ds k) k - bw ds k)) k) : (cmL ds k).set k (-nth (cmL ds k) k - bw ds k) = cmL ds (k + 1) ∧ (0 : Int) = bw ds (k + 1) := by
  rw [cm_v hk] at h
  refine ⟨?_, by rw [bw_cm, if_neg (by omega)]⟩
  rw [← cmL_succ, cmL_at hk]
  congr 1
  unfold cmD; rw [if_neg (by omega)]
theorem rd_neg1 {xs : List Int} {i : Nat} (hi : xs.length ≤ i) (h : (rdS xs i).2 = -1) (hb : bw (rdS xs i).1 i ≠ 0) : (true, trimL (cmL (rdS xs i).1 i)) = wh (val xs) := by
  have h1 := rdS_neg hi h
  have hl : (rdS xs i).1.length = i := rdS_len
  have hd := rdS_dg (xs := xs) (i := i)
  have hlt := hd.val1
  have h2 := cm_pos hd (by rw [hl]; exact hb)
  rw [hl] at h2 hlt
  exact wh_neg (n := (-val xs).toNat) (by omega) (by omega) (trim_dig h2.1 (by omega))
theorem rd_neg0 {xs : List Int} {i : Nat} (hi : xs.length ≤ i) (h : (rdS xs i).2 = -1) (hb : bw (rdS xs i).1 i = 0) : (true, trimL (cmL (rdS xs i).1 i ++ [1])) = wh (val xs) := by
  have h1 := rdS_neg hi h
  have hl : (rdS xs i).1.length = i := rdS_len
  have hd := rdS_dg (xs := xs) (i := i)
  have hlt := hd.val1
  have h2 := cm_zero hd (by rw [hl]; exact hb)
  rw [hl] at h2 hlt
  exact wh_neg (n := (-val xs).toNat) (by omega) (by omega) (trim_dig h2.1 (by omega))
def ngT (ds : List Int) (k : Nat) : List Int := tab ds.length fun j => if j < k then -(nth ds j) else nth ds j
theorem ngT_zero {ds : List Int} : ds = ngT ds 0 := by
  unfold ngT
  exact (tab_nth rfl).trans (tab_congr fun j _ => by rw [if_neg (by omega)])
theorem ngT_at {ds : List Int} {k : Nat} (h : k < ds.length) : nth (ngT ds k) k = nth ds k := by unfold ngT; rw [nth_tab h, if_neg (by omega)]
theorem ngT_succ {ds : List Int} {k : Nat} (h : k < ds.length) : (ngT ds k).set k (-(nth (ngT ds k) k)) = ngT ds (k + 1) := by
  rw [ngT_at h]
  unfold ngT
  rw [tab_set]
  refine tab_congr fun j _ => ?_
  by_cases e : j = k
  · subst e; rw [if_pos rfl, if_pos (by omega)]
  · rw [if_neg e]
    by_cases h : j < k
    · rw [if_pos h, if_pos (by omega)]
    · rw [if_neg h, if_neg (by omega)]
theorem ngT_all {ds : List Int} : ngT ds ds.length = ds.map fun x => -x := by
  refine ext_nth (by unfold ngT; rw [tab_len, List.length_map]) fun j hj => ?_
  unfold ngT at hj ⊢
  rw [tab_len] at hj
  rw [nth_tab hj, if_pos hj, nth_map hj]
theorem lst_pos {z : Int} (h : decide (z < 0) = false) : digN z.natAbs = lstZ z := by unfold lstZ; rw [if_neg (of_decide_eq_false h)]
theorem lst_neg {z : Int} (h : decide (z < 0) = true) : ngT (digN z.natAbs) (digN z.natAbs).length = lstZ z := by rw [ngT_all]; unfold lstZ; rw [if_pos (of_decide_eq_true h)]
theorem dn_len {z : Int} : (digN z.natAbs).length = dl z := rfl
theorem dl_pos {z : Int} : 0 < dl z ↔ z ≠ 0 := by have := dl_zero (a := z); omega
theorem wh_minus {z : Int} : (!decide (z < 0) && decide ((0 : Int) < ((digN z.natAbs).length : Nat)), digN z.natAbs) = wh (-z) := by
  refine wh_mk ?_ (by rw [Int.natAbs_neg])
  have := dl_pos (z := z)
  rw [dn_len]
  by_cases h : z < 0
  · simp [h]; omega
  · by_cases e : z = 0
    · subst e; simp [dl_zero.2 rfl]
    · have h2 : (0 : Int) < (dl z : Nat) := by omega
      simp [h]; omega
theorem val_one {n : Int} : val [n] = n := by simp [val]
theorem cmpZ_lt {x y : Int} (h : x < y) : cmpZ x y = -1 := if_pos h
theorem cmpZ_gt {x y : Int} (h : y < x) : cmpZ x y = 1 := by unfold cmpZ; rw [if_neg (by omega), if_pos h]
theorem cmpZ_eq {x y : Int} (h : x = y) : cmpZ x y = 0 := by unfold cmpZ; rw [if_neg (by omega), if_neg (by omega)]
theorem cmpZ_dl {m n : Nat} (h : (digN m).length ≠ (digN n).length) : cmpZ ((digN m).length : Nat) ((digN n).length : Nat) = cmpZ m n := by
  have h1 := digN_val m; have h2 := digN_val n
  rcases Nat.lt_or_ge (digN m).length (digN n).length with h3 | h3
  · have := cmp_len (digN_nm m) (digN_nm n) h3
    rw [cmpZ_lt (by omega), cmpZ_lt (by omega)]
  · have := cmp_len (digN_nm n) (digN_nm m) (by omega)
    rw [cmpZ_gt (by omega), cmpZ_gt (by omega)]
theorem cmpZ_at {m n : Nat} (hl : (digN m).length = (digN n).length) {i : Nat} (hi : i < (digN m).length) (h : ∀ j, i < j → j < (digN m).length → nth (digN m) j = nth (digN n) j) (hne : nth (digN m) i ≠ nth (digN n) i) : cmpZ (nth (digN m) i) (nth (digN n) i) = cmpZ m n := by
  have h1 := digN_val m; have h2 := digN_val n
  rcases Int.lt_or_gt_of_ne hne with h3 | h3
  · have := cmp_at (digN_dg m) (digN_dg n) hl hi h h3
    rw [cmpZ_lt h3, cmpZ_lt (by omega)]
  · have := cmp_at (digN_dg n) (digN_dg m) hl.symm (by omega) (fun j h4 h5 => (h j h4 (by omega)).symm) h3
    rw [cmpZ_gt h3, cmpZ_gt (by omega)]
theorem cmpZ_all {m n : Nat} (hl : (digN m).length = (digN n).length) (h : ∀ j, 0 ≤ j → j < (digN m).length → nth (digN m) j = nth (digN n) j) : (0 : Int) = cmpZ m n := by
  have e := cmp_eq hl (fun j hj => h j (Nat.zero_le _) hj)
  have h1 := digN_val m; have h2 := digN_val n
  rw [e, h2] at h1
  rw [cmpZ_eq h1.symm]
end Go.Fl

/- Contracts: the library, for integers. -/
namespace Go.Fl
open Go Go.Proofs
open TrL renaming op → tO
open RunD renaming op → rO

set_option maxRecDepth 100000 in
theorem ct_isNaN (x : Int) : Ct Tryz.prog 207 [kI x] (kB false) := by
  refine Ct.mk Tryz.func207 rfl Tryz.ntmps207 rfl (fun w J => ?_); refine Tr.seq (Tr.rg ?_); refine mw rfl rfl rfl ?_; refine TrL.fin (End.nxt (Tr.seq (Tr.rg ?_))); refine mv rfl rfl rfl ?_; refine mv rfl rfl rfl ?_; refine tO (ok_neq rfl uu rfl uu) rfl rfl ?_; refine mw rfl rfl rfl ?_; refine TrL.fin (End.nxt (Tr.ret ?_)); exact Rts.res1 (fn := Tryz.f207) rfl (.b rfl (by simp) <| .nil)

set_option maxRecDepth 100000 in
theorem ct_cmpZc (x y : Int) : Ct Tryz.prog 188 [kI x, kI y] (kI (cmpZ x y)) := by
  refine Ct.mk Tryz.func188 rfl Tryz.ntmps188 rfl (fun w J => ?_); refine Tr.seq (Tr.rg ?_); refine mw rfl rfl rfl ?_; refine TrL.fin (End.nxt (Tr.seq (Tr.rg ?_))); refine mv rfl rfl rfl ?_; refine tO (ok_call (fun hp => ct_isNaN _) (.a rfl uu <| .nil)) rfl rfl ?_; refine mw rfl rfl rfl ?_; refine TrL.fin (End.nxt (Tr.seq (Tr.rg ?_))); refine mv rfl rfl rfl ?_; refine tO (ok_call (fun hp => ct_isNaN _) (.a rfl uu <| .nil)) rfl rfl ?_; refine mw rfl rfl rfl ?_; refine TrL.fin (End.nxt (Tr.seq (Tr.seq (Tr.rg ?_))))
  refine mv rfl rfl rfl ?_; refine TrL.fin (End.nxt ?_); refine Tr.cnd rfl ?_ ?_
  · intro h3
    simp at h3
  · intro h3
    refine Tr.skip (End.nxt (Tr.seq (Tr.seq (Tr.rg ?_)))); refine mv rfl rfl rfl ?_; refine TrL.fin (End.nxt ?_); refine Tr.cnd rfl ?_ ?_
    · intro h7
      simp at h7
    · intro h7
      refine Tr.skip (End.nxt (Tr.seq (Tr.seq (Tr.rg ?_)))); refine mv rfl rfl rfl ?_; refine mv rfl rfl rfl ?_; refine tO (ok_lss rfl uu rfl uu) rfl rfl ?_; refine TrL.fin (End.nxt ?_); refine Tr.cnd rfl ?_ ?_
      · intro h9
        replace h9 := of_decide_eq_true h9
        refine Tr.seq (Tr.rg ?_); refine mw rfl rfl rfl ?_; refine TrL.fin (End.nxt (Tr.ret (Rts.thn ?_))); exact Rts.res1 (fn := Tryz.f188) rfl (.i rfl (cmpZ_lt h9).symm <| .nil)
      · intro h9
        replace h9 := Int.not_lt.1 (of_decide_eq_false h9)
        refine Tr.skip (End.nxt (Tr.seq (Tr.seq (Tr.rg ?_)))); refine mv rfl rfl rfl ?_; refine mv rfl rfl rfl ?_; refine tO (ok_gtr rfl uu rfl uu) rfl rfl ?_; refine TrL.fin (End.nxt ?_); refine Tr.cnd rfl ?_ ?_
        · intro h11
          replace h11 := of_decide_eq_true h11
          refine Tr.seq (Tr.rg ?_); refine mw rfl rfl rfl ?_; refine TrL.fin (End.nxt (Tr.ret (Rts.thn ?_))); exact Rts.res1 (fn := Tryz.f188) rfl (.i rfl (cmpZ_gt (by omega)).symm <| .nil)
        · intro h11
          replace h11 := Int.not_lt.1 (of_decide_eq_false h11)
          refine Tr.skip (End.nxt (Tr.seq (Tr.rg ?_))); refine mw rfl rfl rfl ?_; refine TrL.fin (End.nxt (Tr.ret ?_)); exact Rts.res1 (fn := Tryz.f188) rfl (.i rfl (cmpZ_eq (by omega)).symm <| .nil)

set_option maxRecDepth 100000 in
theorem ct_cloneN (p : List Int) (hn : p.length ≤ 1000000) (h0 : 0 < p.length) : CtN Tryz.prog 66 [kRd (eL eI) p] (fun t => kOsl t p.length) (cArr false 3 eI p p.length) := by
  refine CtN.mk Tryz.func66 rfl Tryz.ntmps66 rfl (fun w J => ?_); refine Tr.seq (Tr.rg ?_); refine mw rfl rfl rfl ?_; refine TrL.fin (End.nxt (Tr.seq (Tr.seq (Tr.rg ?_)))); refine mv rfl rfl rfl ?_; refine tO (ok_eqlNilJ rfl uu) rfl rfl ?_; refine TrL.fin (End.nxt ?_); refine Tr.exB (s := 4) rfl (fun b1 q1 => ?_); refine Tr.cnd rfl ?_ ?_
  · intro h1
    exact absurd (congrArg List.length (q1 h1)) (by simp only [List.length_nil]; omega)
  · intro h1
    refine Tr.skip (End.nxt (Tr.seq (Tr.rg ?_))); refine TrL.new (ok_bsl0 eI 5) rfl rfl rfl rfl ?_; refine mv rfl rfl rfl ?_
    refine TrL.app rfl rfl rfl rfl rfl rfl rfl rfl (by first | omega | (simp only [List.length_cons, List.length_nil]; omega)) (by first | omega | (simp only [List.length_cons, List.length_nil]; omega)) ?_
    refine TrL.norm (S' := [⟨_, _, _, _⟩, ⟨_, _, _, _⟩, ⟨_, _, _, _⟩, ⟨_, _, _, _⟩, ⟨_, _, _, _⟩, ⟨_, _, _, _⟩, ⟨_, _, _, _⟩, ⟨_, _, _, _⟩]) rfl rfl ?_; refine mw rfl rfl rfl ?_; refine TrL.fin (End.nxt (Tr.ret ?_))
    exact Rts.resN (fn := Tryz.f66) (u := 5) rfl rfl (arr_res (by first | rfl | omega | simp <;> omega | assumption) (by first | rfl | omega | simp <;> omega | assumption)) (osl_res (by first | rfl | omega | simp <;> omega | assumption)) inferInstance

end Go.Fl

/- Contracts: integers of the package field (reading, normal form). -/
namespace Go.Fl
open Go Go.Proofs
open TrL renaming op → tO
open RunD renaming op → rO

def eW : Enc (Bool × List Int) := eC (fun v : Bool × List Int => (v.1, v.2, ())) (eP eBool (eP (eL eI) eU))
instance {v : Bool × List Int} : CellsK (kRd eW v) [kB (v.1), kRd (eL eI) (v.2)] := inferInstanceAs (CellsK (kRd (eC (fun v : Bool × List Int => (v.1, v.2, ())) (eP eBool (eP (eL eI) eU))) v) _)
instance {v : Bool × List Int} {tl : List Know} : EncCells eW v tl (kB (v.1) :: kRd (eL eI) (v.2) :: tl) := inferInstanceAs (EncCells (eC (fun v : Bool × List Int => (v.1, v.2, ())) (eP eBool (eP (eL eI) eU))) v tl _)
instance {v : Bool × List Int} : Norm eW v (kRd eW v) := ⟨fun h => h⟩
instance {v : Bool × List Int} : FieldP eW v 0 eBool (v.1) 0 := inferInstanceAs (FieldP (eC (fun v : Bool × List Int => (v.1, v.2, ())) (eP eBool (eP (eL eI) eU))) v 0 _ _ _)
instance {v : Bool × List Int} : FieldP eW v 1 (eL eI) (v.2) 1 := inferInstanceAs (FieldP (eC (fun v : Bool × List Int => (v.1, v.2, ())) (eP eBool (eP (eL eI) eU))) v 1 _ _ _)
instance {ks r : List Know} {b : Bool} {l : List Int} [h : RdOf ks (eP eBool (eP (eL eI) eU)) (b, l, ()) r] : RdOf ks eW ((b, l)) r := ⟨fun h' => h.imp h'⟩
instance {z : Int} : FieldP eW (wh z) 0 eBool (decide (z < 0)) 0 := inferInstanceAs (FieldP eW (wh z) 0 eBool ((wh z).1) _)
instance {z : Int} : FieldP eW (wh z) 1 (eL eI) (digN z.natAbs) 1 := inferInstanceAs (FieldP eW (wh z) 1 (eL eI) ((wh z).2) _)
instance {z : Int} : CellsK (kRd eW (wh z)) [kB (decide (z < 0)), kRd (eL eI) (digN z.natAbs)] := inferInstanceAs (CellsK (kRd eW (wh z)) [kB ((wh z).1), kRd (eL eI) ((wh z).2)])
instance {z : Int} {tl : List Know} : EncCells eW (wh z) tl (kB (decide (z < 0)) :: kRd (eL eI) (digN z.natAbs) :: tl) := inferInstanceAs (EncCells eW (wh z) tl (kB ((wh z).1) :: kRd (eL eI) ((wh z).2) :: tl))
set_option maxRecDepth 100000 in
theorem ct_floored (n : Int) (hn : -9223372036854775808 ≤ n ∧ n ≤ 9223372036854775807) : Ct Tryz.prog 187 [kI n] (kTup [kI (n / 100000000), kI (n % 100000000)]) := by
  obtain ⟨hq1, hq2, hq3⟩ := td8 n
  refine Ct.mk Tryz.func187 rfl Tryz.ntmps187 rfl (fun w J => ?_); refine Tr.seq (Tr.rg ?_); refine mw rfl rfl rfl ?_; refine mw rfl rfl rfl ?_; refine TrL.fin (End.nxt (Tr.seq (Tr.rg ?_))); refine mv rfl rfl rfl ?_; refine tO (ok_quo rfl uu rfl uu (fun _ => by omega)) rfl rfl ?_; refine mv rfl rfl rfl ?_; refine tO (ok_rem rfl uu rfl uu (fun _ => by omega)) rfl rfl ?_; refine mw rfl rfl rfl ?_; refine mw rfl rfl rfl ?_; refine TrL.fin (End.nxt (Tr.seq (Tr.seq (Tr.rg ?_)))); refine mv rfl rfl rfl ?_
  refine tO (ok_lss rfl uu rfl uu) rfl rfl ?_; refine TrL.fin (End.nxt ?_); refine Tr.cnd rfl ?_ ?_
  · intro h2
    replace h2 := of_decide_eq_true h2
    refine Tr.seq (Tr.rg ?_); refine mv rfl rfl rfl ?_; refine tO (ok_sub rfl uu rfl uu (fun _ => by omega)) rfl rfl ?_; refine mv rfl rfl rfl ?_; refine tO (ok_add rfl uu rfl uu (fun _ => by omega)) rfl rfl ?_; refine mw rfl rfl rfl ?_; refine mw rfl rfl rfl ?_; refine TrL.fin (End.nxt (Tr.ret (Rts.thn ?_))); exact Rts.res (fn := Tryz.f187) (ts := [2, 3]) rfl rfl (.i rfl (by omega) <| .i rfl (by omega) <| .nil)
  · intro h2
    replace h2 := Int.not_lt.1 (of_decide_eq_false h2)
    refine Tr.skip (End.nxt (Tr.seq (Tr.rg ?_))); refine mv rfl rfl rfl ?_; refine mv rfl rfl rfl ?_; refine mw rfl rfl rfl ?_; refine mw rfl rfl rfl ?_; refine TrL.fin (End.nxt (Tr.ret ?_)); exact Rts.res (fn := Tryz.f187) (ts := [2, 3]) rfl rfl (.i rfl (by omega) <| .i rfl (by omega) <| .nil)

set_option maxRecDepth 100000 in
theorem ct_trimmedV (xs : List Int) (ad : Option Addr) (cp : Nat) : Ct Tryz.prog 153 [kSlv eI ad cp xs] (kSlv eI ad cp (trimL xs)) := by
  refine Ct.mk Tryz.func153 rfl Tryz.ntmps153 rfl (fun w J => ?_); refine Tr.fact (s := 0) rfl (fun _ _ h => lenB h.2) (fun hb => ?_); refine Tr.seq (Tr.rg ?_); refine mw rfl rfl rfl ?_; refine TrL.fin (End.nxt ?_); refine Tr.for (σ := Nat) [] [] (fun m => [⟨0, true, [], kSlv eI ad cp (xs.take m)⟩]) (fun m => []) (fun m => m ≤ xs.length ∧ ∀ i, m ≤ i → i < xs.length → nth xs i = 0) (fun m => trimL xs = xs.take m) (fun m => m) (xs.length) ⟨by omega, fun i h1 h2 => absurd h1 (by omega)⟩ (Ent.mk (.v rfl (List.take_length).symm <| .nil) (.nil) rfl) ?_ ?_
  · rintro m ⟨hm, hz⟩
    refine Tr.norm (S' := [⟨0, true, _, _⟩]) (M' := []) rfl rfl ?_
    have hl : (xs.take m).length = m := by rw [List.length_take]; omega
    have hat : 0 < m → nth (xs.take m) ((((xs.take m).length : Nat) : Int) - 1).toNat = nth xs (m - 1) := fun h => by rw [hl, show (((m : Nat) : Int) - 1).toNat = m - 1 by omega]; exact nth_take (by omega)
    refine Tr.seq (Tr.seq (Tr.rg ?_)); refine mv rfl rfl rfl ?_; refine tO (ok_lenV rfl uu) rfl rfl ?_; refine tO (ok_gtr rfl uu rfl uu) rfl rfl ?_; refine mv rfl rfl rfl ?_; refine TrL.gd rfl rfl rfl (ok_move rfl uu) rfl rfl ?_; refine TrL.gd rfl rfl rfl (ok_move rfl uu) rfl rfl ?_; refine TrL.gd rfl rfl rfl (ok_lenV rfl id) rfl rfl ?_; refine TrL.gd rfl rfl rfl (ok_sub rfl id rfl uu (fun hp => by simp at hp; omega)) rfl rfl ?_; refine TrL.gd rfl rfl rfl (ok_idxV rfl id rfl id rfl (fun hp => by simp at hp; omega)) rfl rfl ?_; refine TrL.gd rfl rfl rfl (ok_ldP rfl id rfl) rfl rfl ?_
    refine TrL.gd rfl rfl rfl (ok_eql rfl id rfl uu) rfl rfl ?_; refine tO (ok_and rfl uu rfl (fun hp h => gdT2 ((fun _ => rfl) hp) h)) rfl rfl ?_; refine TrL.fin (End.nxt ?_); refine Tr.cnd rfl ?_ ?_
    · intro h1
      try simp only [decide_eq_true_eq, Bool.and_eq_true] at h1
      refine Tr.skip (End.nxt (Tr.blk (Tr.rg ?_))); refine mv rfl rfl rfl ?_; refine mv rfl rfl rfl ?_; refine tO (ok_lenV rfl uu) rfl rfl ?_; refine tO (ok_sub rfl uu rfl uu (fun _ => by omega)) rfl rfl ?_; refine tO (ok_slVh rfl uu rfl uu (fun _ => by omega)) rfl rfl ?_; refine mw rfl rfl rfl ?_; refine TrL.fin (End.blk ?_); exact End.lp (m - 1) ⟨by omega, fun i h2 h3 => by (by_cases e : i = m - 1; subst e; rw [← hat (by omega)]; exact h1.2; exact hz i (by omega) h3)⟩ (by omega) (Ent.mk (.v rfl (by rw [List.take_take]; congr 1; omega) <| .nil) (.nil) rfl)
    · intro h1
      try simp only [decide_eq_true_eq, decide_eq_false_iff_not, Bool.and_eq_false_imp] at h1
      refine Tr.exit (Exs.thn (Exs.thn (Exs.here ?_)))
      exact End.cut (m) (trim_take hm hz (by by_cases e : m = 0; exact .inl e; exact .inr (by rw [← hat (by omega)]; exact h1 (by omega)))) (Ent.mk (.v rfl (by first | rfl | omega | simp <;> omega | assumption) <| .nil) (.nil) rfl)
  · intro m hE0
    refine Tr.norm (S' := [⟨0, true, _, _⟩]) (M' := []) rfl rfl ?_; refine Tr.seq (Tr.rg ?_); refine mv rfl rfl rfl ?_; refine mw rfl rfl rfl ?_; refine TrL.fin (End.nxt (Tr.ret ?_)); exact Rts.res1 (fn := Tryz.f153) rfl (.v rfl hE0.symm <| .nil)

theorem ct_trimmed (xs : List Int) : Ct Tryz.prog 153 [kRd (eL eI) xs] (kRd (eL eI) (trimL xs)) := Ct.ofSlv fun ad cp => ct_trimmedV xs ad cp

set_option maxRecDepth 100000 in
set_option maxHeartbeats 1000000 in
theorem ct_fread (xs : List Int) (hx : InI xs) (hn : xs.length ≤ 1000000) : Ct Tryz.prog 152 [kRd (eL eI) xs] (kRd eW (wh (val xs))) := by
  refine Ct.mk Tryz.func152 rfl Tryz.ntmps152 rfl (fun w J => ?_); refine Tr.seq (Tr.rg ?_); refine TrL.new (ok_alloc 2) rfl rfl rfl rfl ?_; refine TrL.fin (End.nxt (Tr.seq (Tr.rg ?_))); refine mw rfl rfl rfl ?_; refine TrL.fin (End.nxt (Tr.seq (Tr.rg ?_))); refine mw rfl rfl rfl ?_; refine TrL.fin (End.nxt (Tr.seq (Tr.seq (Tr.rg ?_)))); refine mw rfl rfl rfl ?_; refine TrL.fin (End.nxt ?_); refine Tr.grow (s := 3) rfl rfl 3 rfl 3 eI rfl ?_
  refine Tr.for1 (σ := Nat) [⟨0, true, _, _⟩, ⟨2, true, _, _⟩] [⟨2, _, _⟩] (fun i => [⟨3, true, [3], kOsl 3 i⟩, ⟨4, true, [], kI (rdS xs i).2⟩, ⟨5, true, [], kI (i : Int)⟩]) (fun i => [⟨3, [], cArr true 3 eI (rdS xs i).1 i⟩]) (fun i => (i : Int) + (rdS xs i).2.natAbs ≤ xs.length + 100000000000) (fun i => xs.length ≤ i ∧ ((rdS xs i).2 = 0 ∨ (rdS xs i).2 = -1) ∧ i ≤ xs.length + 100000000000) (fun i => (xs.length - i) * 1000000000000 + (rdS xs i).2.natAbs) (0) (by simp [rdS]; omega) (Ent.mk (.o rfl (by first | rfl | omega | simp <;> omega | assumption) rfl <| .i rfl (by first | rfl | omega | simp <;> omega | assumption) <| .i rfl (by first | rfl | omega | simp <;> omega | assumption) <| .k rfl rfl <| .k rfl rfl <| .nil) (.a (by first | rfl | omega | simp <;> omega | assumption) (by first | rfl | omega | simp <;> omega | assumption) <| .k rfl <| .nil) rfl) ?_ ?_
  · rintro i hi
    refine Tr.norm (S' := [⟨3, true, _, _⟩, ⟨4, true, _, _⟩, ⟨5, true, _, _⟩, ⟨0, true, _, _⟩, ⟨2, true, _, _⟩]) (M' := [⟨3, _, _⟩, ⟨2, _, _⟩]) rfl rfl ?_
    have hc1 := rdS_c hx (i := i)
    have hc2 := rdS_c hx (i := i + 1)
    have hx1 := hx.x i
    have hs := rdS_split (xs := xs) (i := i)
    have hs2 : (rdS xs (i + 1)).2 = (xAt xs i + (rdS xs i).2) / 100000000 := rfl
    have hxo : ¬ i < xs.length → xAt xs i = 0 := xAt_out
    refine Tr.seq (Tr.seq (Tr.rg ?_)); refine mv rfl rfl rfl ?_; refine mv rfl rfl rfl ?_; refine tO (ok_lenJ rfl uu) rfl rfl ?_; refine tO (ok_lss rfl uu rfl uu) rfl rfl ?_; refine mv rfl rfl rfl ?_; refine TrL.gd rfl rfl rfl (ok_move rfl uu) rfl rfl ?_; refine TrL.gd rfl rfl rfl (ok_neq rfl id rfl uu) rfl rfl ?_; refine TrL.gd rfl rfl rfl (ok_move rfl id) rfl rfl ?_; refine TrL.gd rfl rfl rfl (ok_move rfl uu) rfl rfl ?_; refine TrL.gd rfl rfl rfl (ok_neq rfl id rfl uu) rfl rfl ?_; refine TrL.gd rfl rfl rfl (ok_and rfl id rfl (fun hp h => gdT2 (id hp) h)) rfl rfl ?_
    refine tO (ok_or rfl uu rfl (fun hp h => gdF2 ((fun _ => rfl) hp) h)) rfl rfl ?_; refine TrL.fin (End.nxt ?_); refine Tr.cnd rfl ?_ ?_
    · intro h4
      try simp only [decide_eq_true_eq, Bool.and_eq_true, Bool.or_eq_true, ne_eq] at h4
      refine Tr.skip (End.nxt (Tr.seq (Tr.blk (Tr.seq (Tr.rg ?_))))); refine mw rfl rfl rfl ?_; refine mw rfl rfl rfl ?_; refine TrL.fin (End.nxt ?_); refine Tr.meet2 (σ := Unit) [⟨0, true, _, _⟩, ⟨2, true, _, _⟩, ⟨3, true, _, _⟩, ⟨4, true, _, _⟩, ⟨5, true, _, _⟩] [⟨2, _, _⟩, ⟨3, _, _⟩] (.k rfl rfl <| .k rfl rfl <| .k rfl rfl <| .k rfl rfl <| .k rfl rfl <| .nil) (.k rfl <| .k rfl <| .nil) (fun _ => [⟨6, true, [], kI (xAt xs i / 100000000)⟩, ⟨7, true, [], kI (xAt xs i % 100000000)⟩]) (fun _ => []) (fun _ => True) ?_ ?_
      · skip
        refine Tr.seq (Tr.rg ?_); refine mv rfl rfl rfl ?_; refine mv rfl rfl rfl ?_; refine tO (ok_lenJ rfl uu) rfl rfl ?_; refine tO (ok_lss rfl uu rfl uu) rfl rfl ?_; refine TrL.fin (End.nxt ?_); refine Tr.cnd rfl ?_ ?_
        · intro h7
          replace h7 := of_decide_eq_true h7
          refine Tr.rg ?_; refine mv rfl rfl rfl ?_; refine mv rfl rfl rfl ?_
          first | refine tO (ok_idxN rfl uu rfl uu rfl (fun _ => by omega)) rfl rfl ?_ | refine tO (ok_idxP rfl uu rfl uu rfl (fun _ => by omega)) rfl rfl ?_
          refine tO (ok_ldP rfl uu rfl) rfl rfl ?_; refine tO (ok_call (fun hp => ct_floored _ (by have := hx i (by omega); omega)) (.a rfl uu <| .nil)) rfl rfl ?_; refine mv rfl rfl rfl ?_; refine tO (ok_ext rfl uu rfl) rfl rfl ?_; refine tO (ok_ext rfl uu rfl) rfl rfl ?_; refine mw rfl rfl rfl ?_; refine mw rfl rfl rfl ?_; refine TrL.fin ?_
          exact End.cut (()) (by first | rfl | omega | simp <;> omega | assumption) (Ent.mk (.i rfl (by rw [xAt_in (by omega)]) <| .i rfl (by rw [xAt_in (by omega)]) <| .k rfl rfl <| .k rfl rfl <| .k rfl rfl <| .k rfl rfl <| .k rfl rfl <| .nil) (.k rfl <| .k rfl <| .nil) rfl)
        · intro h7
          replace h7 := Int.not_lt.1 (of_decide_eq_false h7)
          refine Tr.skip ?_
          exact End.cut (()) (by first | rfl | omega | simp <;> omega | assumption) (Ent.mk (.i rfl (by rw [hxo (by omega)]; rfl) <| .i rfl (by rw [hxo (by omega)]; rfl) <| .k rfl rfl <| .k rfl rfl <| .k rfl rfl <| .k rfl rfl <| .k rfl rfl <| .nil) (.k rfl <| .k rfl <| .nil) rfl)
      · intro _ hM
        refine Tr.norm (S' := [⟨6, true, _, _⟩, ⟨7, true, _, _⟩, ⟨0, true, _, _⟩, ⟨2, true, _, _⟩, ⟨3, true, _, _⟩, ⟨4, true, _, _⟩, ⟨5, true, _, _⟩]) (M' := [⟨2, _, _⟩, ⟨3, _, _⟩]) rfl rfl ?_; refine Tr.seq (Tr.rg ?_); refine mv rfl rfl rfl ?_; refine mv rfl rfl rfl ?_; refine tO (ok_add rfl uu rfl uu (fun _ => by omega)) rfl rfl ?_; refine tO (ok_call (fun hp => ct_floored _ (by omega)) (.a rfl uu <| .nil)) rfl rfl ?_; refine mv rfl rfl rfl ?_; refine tO (ok_ext rfl uu rfl) rfl rfl ?_; refine tO (ok_ext rfl uu rfl) rfl rfl ?_
        refine mw rfl rfl rfl ?_; refine mw rfl rfl rfl ?_; refine TrL.fin (End.nxt (Tr.rg ?_)); refine mv rfl rfl rfl ?_; refine mv rfl rfl rfl ?_; refine TrL.new (ok_bsl eI 48 (fun hp => .cons rfl <| .nil) rfl rfl rfl rfl) rfl rfl rfl rfl ?_
        refine TrL.app rfl rfl rfl rfl rfl rfl rfl rfl (by first | omega | (simp only [List.length_cons, List.length_nil]; omega)) (by first | omega | (simp only [List.length_cons, List.length_nil]; omega)) ?_
        refine TrL.norm (S' := [⟨_, _, _, _⟩, ⟨_, _, _, _⟩, ⟨_, _, _, _⟩, ⟨_, _, _, _⟩, ⟨_, _, _, _⟩, ⟨_, _, _, _⟩, ⟨_, _, _, _⟩, ⟨_, _, _, _⟩, ⟨_, _, _, _⟩, ⟨_, _, _, _⟩, ⟨_, _, _, _⟩, ⟨_, _, _, _⟩, ⟨_, _, _, _⟩, ⟨_, _, _, _⟩, ⟨_, _, _, _⟩, ⟨_, _, _, _⟩, ⟨_, _, _, _⟩, ⟨_, _, _, _⟩, ⟨_, _, _, _⟩, ⟨_, _, _, _⟩]) rfl rfl ?_; refine mv rfl rfl rfl ?_; refine mv rfl rfl rfl ?_; refine tO (ok_add rfl uu rfl uu (fun _ => by omega)) rfl rfl ?_; refine mw rfl rfl rfl ?_; refine mw rfl rfl rfl ?_; refine TrL.fin (End.blk (End.nxt (Tr.rg ?_)))
        refine mv rfl rfl rfl ?_; refine tO (ok_add rfl uu rfl uu (fun _ => by omega)) rfl rfl ?_; refine mw rfl rfl rfl ?_; refine TrL.fin ?_
        exact End.lp (i + 1) (by omega) (by omega) (Ent.mk (.o rfl (by first | rfl | omega | simp <;> omega | assumption) rfl <| .i rfl hs.1 <| .i rfl (by first | rfl | omega | simp <;> omega | assumption) <| .k rfl rfl <| .k rfl rfl <| .nil) (.a (by rw [rdS, ← hs.2]) (by first | rfl | omega | simp <;> omega | assumption) <| .k rfl <| .nil) rfl)
    · intro h4
      try simp only [decide_eq_true_eq, decide_eq_false_iff_not, Bool.and_eq_false_imp, Bool.or_eq_false_iff, Int.not_lt, ne_eq, Classical.not_not] at h4
      refine Tr.exit (Exs.thn (Exs.thn (Exs.here ?_)))
      exact End.cut (i) ⟨by omega, by omega, by omega⟩ (Ent.mk (.o rfl (by first | rfl | omega | simp <;> omega | assumption) rfl <| .i rfl (by first | rfl | omega | simp <;> omega | assumption) <| .i rfl (by first | rfl | omega | simp <;> omega | assumption) <| .k rfl rfl <| .k rfl rfl <| .nil) (.a (by first | rfl | omega | simp <;> omega | assumption) (by first | rfl | omega | simp <;> omega | assumption) <| .k rfl <| .nil) rfl)
  · rintro i ⟨hi, hc, hb⟩
    refine End.norm (S' := [⟨3, true, _, _⟩, ⟨4, true, _, _⟩, ⟨5, true, _, _⟩, ⟨0, true, _, _⟩, ⟨2, true, _, _⟩]) (M' := [⟨3, _, _⟩, ⟨2, _, _⟩]) rfl rfl ?_; refine End.nxt (Tr.seq (Tr.seq (Tr.rg ?_))); refine mv rfl rfl rfl ?_; refine tO (ok_eql rfl uu rfl uu) rfl rfl ?_; refine TrL.fin (End.nxt ?_); refine Tr.cnd rfl ?_ ?_
    · intro h11
      replace h11 := of_decide_eq_true h11
      refine Tr.seq (Tr.rg ?_); refine mv rfl rfl rfl ?_
      refine TrL.frz 3 [3, 55] ⟨rfl, rfl, trivial⟩ (by first | (simp only [lenMax]; omega) | (simp only [lenMax, List.length_singleton]; omega)) rfl ?_
      refine TrL.norm (S' := [⟨_, _, _, _⟩, ⟨_, _, _, _⟩, ⟨_, _, _, _⟩, ⟨_, _, _, _⟩, ⟨_, _, _, _⟩, ⟨_, _, _, _⟩, ⟨_, _, _, _⟩, ⟨_, _, _, _⟩, ⟨_, _, _, _⟩, ⟨_, _, _, _⟩]) rfl rfl ?_; refine tO (ok_call (fun hp => ct_trimmed _) (.a rfl uu <| .nil)) rfl rfl ?_; refine tO (ok_build (fun hp => .cons rfl rfl rfl <| .nil)) rfl rfl ?_; refine TrL.stB rfl rfl rfl rfl ?_; refine TrL.fin (End.nxt (Tr.ret (Rts.thn ?_))); exact Rts.resC1 (fn := Tryz.f152) rfl rfl (aggRd rfl (rd_pos hi h11))
    · intro h11
      replace h11 := of_decide_eq_false h11
      refine Tr.skip (End.nxt (Tr.seq (Tr.rg ?_))); refine mw rfl rfl rfl ?_; refine TrL.fin (End.nxt (Tr.seq (Tr.seq (Tr.rg ?_)))); refine mv rfl rfl rfl ?_; refine tO (ok_lenO rfl uu) rfl rfl ?_; refine mv rfl rfl rfl ?_; refine TrL.fin (End.nxt ?_)
      refine Tr.for1 (σ := Nat) [⟨2, true, _, _⟩, ⟨3, true, _, _⟩, ⟨58, true, _, _⟩, ⟨59, true, _, _⟩] [⟨2, _, _⟩] (fun k => [⟨10, true, [], kI (bw (rdS xs i).1 k)⟩, ⟨60, true, [], kI (k : Int)⟩]) (fun k => [⟨3, [], cArr true 3 eI (cmL (rdS xs i).1 k) i⟩]) (fun k => k ≤ i) (fun k => k = i) (fun k => i - k) (0) (by first | rfl | omega | simp <;> omega | assumption) (Ent.mk (.i rfl (by first | rfl | omega | simp <;> omega | assumption) <| .i rfl (by first | rfl | omega | simp <;> omega | assumption) <| .k rfl rfl <| .k rfl rfl <| .k rfl rfl <| .k rfl rfl <| .nil) (.a cmL_zero (by first | rfl | omega | simp <;> omega | assumption) <| .k rfl <| .nil) rfl) ?_ ?_
      · rintro k hk
        refine Tr.norm (S' := [⟨10, true, _, _⟩, ⟨60, true, _, _⟩, ⟨2, true, _, _⟩, ⟨3, true, _, _⟩, ⟨58, true, _, _⟩, ⟨59, true, _, _⟩]) (M' := [⟨3, _, _⟩, ⟨2, _, _⟩]) rfl rfl ?_
        have hl : (rdS xs i).1.length = i := rdS_len
        have hd := fun (h : k < i) => (rdS_dg (xs := xs) (i := i)).at (i := k) (by omega)
        have hb01 := bw_01 (ds := (rdS xs i).1) (k := k)
        have hat := fun (h : k < i) => cmL_at (ds := (rdS xs i).1) (k := k) (by omega)
        have hcl := cmL_len (ds := (rdS xs i).1) (k := k)
        have hsv := fun (h : k < i) => cm_v (ds := (rdS xs i).1) (k := k) (by omega)
        refine Tr.seq (Tr.rg ?_); refine tO (ok_lss rfl uu rfl uu) rfl rfl ?_; refine TrL.fin (End.nxt (Tr.seq ?_)); refine Tr.cnd rfl ?_ ?_
        · intro h15
          replace h15 := of_decide_eq_true h15
          refine Tr.skip (End.nxt (Tr.seq (Tr.blk (Tr.seq (Tr.rg ?_))))); refine mv rfl rfl rfl ?_
          first | refine tO (ok_idxEN rfl uu rfl uu (fun _ => by omega)) rfl rfl ?_ | refine tO (ok_idxE rfl uu rfl uu (fun _ => by omega)) rfl rfl ?_
          refine tO (ok_ldE rfl uu rfl rfl rfl) rfl rfl ?_; refine mw rfl rfl rfl ?_; refine mw rfl rfl rfl ?_; refine TrL.fin (End.nxt (Tr.seq (Tr.rg ?_))); refine mv rfl rfl rfl ?_; refine mv rfl rfl rfl ?_; refine mv rfl rfl rfl ?_; refine tO (ok_neg rfl uu (fun _ => by omega)) rfl rfl ?_; refine mv rfl rfl rfl ?_; refine tO (ok_sub rfl uu rfl uu (fun _ => by omega)) rfl rfl ?_
          first | refine tO (ok_idxEN rfl uu rfl uu (fun _ => by omega)) rfl rfl ?_ | refine tO (ok_idxE rfl uu rfl uu (fun _ => by omega)) rfl rfl ?_
          refine TrL.stE rfl rfl rfl rfl rfl ?_; refine TrL.fin (End.nxt (Tr.seq (Tr.rg ?_))); refine mw rfl rfl rfl ?_; refine TrL.fin (End.nxt (Tr.seq (Tr.rg ?_))); refine mv rfl rfl rfl ?_; refine mv rfl rfl rfl ?_
          first | refine tO (ok_idxEN rfl uu rfl uu (fun _ => by omega)) rfl rfl ?_ | refine tO (ok_idxE rfl uu rfl uu (fun _ => by omega)) rfl rfl ?_
          refine tO (ok_ldE rfl uu rfl rfl rfl) rfl rfl ?_; refine tO (ok_lss rfl uu rfl uu) rfl rfl ?_; refine TrL.fin (End.nxt ?_); refine Tr.cnd rfl ?_ ?_
          · intro h19
            replace h19 := of_decide_eq_true h19
            refine Tr.seq (Tr.rg ?_); refine mv rfl rfl rfl ?_; refine mv rfl rfl rfl ?_
            first | refine tO (ok_idxEN rfl uu rfl uu (fun _ => by omega)) rfl rfl ?_ | refine tO (ok_idxE rfl uu rfl uu (fun _ => by omega)) rfl rfl ?_
            refine tO (ok_ldE rfl uu rfl rfl rfl) rfl rfl ?_; refine tO (ok_add rfl uu rfl uu (fun _ => by omega)) rfl rfl ?_
            first | refine tO (ok_idxEN rfl uu rfl uu (fun _ => by omega)) rfl rfl ?_ | refine tO (ok_idxE rfl uu rfl uu (fun _ => by omega)) rfl rfl ?_
            refine TrL.stE rfl rfl rfl rfl rfl ?_; refine TrL.fin (End.nxt (Tr.rg ?_)); refine mw rfl rfl rfl ?_; refine TrL.fin (End.blk (End.nxt (Tr.rg ?_))); refine tO (ok_add rfl uu rfl uu (fun _ => by omega)) rfl rfl ?_; refine mv rfl rfl rfl ?_; refine TrL.fin ?_
            exact End.lp (k + 1) (by first | rfl | omega | simp <;> omega | assumption) (by omega) (Ent.mk (.i rfl (cm_t (by omega) h19).2 <| .i rfl (by first | rfl | omega | simp <;> omega | assumption) <| .k rfl rfl <| .k rfl rfl <| .k rfl rfl <| .k rfl rfl <| .nil) (.a (cm_t (by omega) h19).1 (by first | rfl | omega | simp <;> omega | assumption) <| .k rfl <| .nil) rfl)
          · intro h19
            replace h19 := Int.not_lt.1 (of_decide_eq_false h19)
            refine Tr.skip (End.blk (End.nxt (Tr.rg ?_))); refine tO (ok_add rfl uu rfl uu (fun _ => by omega)) rfl rfl ?_; refine mv rfl rfl rfl ?_; refine TrL.fin ?_
            exact End.lp (k + 1) (by first | rfl | omega | simp <;> omega | assumption) (by omega) (Ent.mk (.i rfl (cm_f (by omega) h19).2 <| .i rfl (by first | rfl | omega | simp <;> omega | assumption) <| .k rfl rfl <| .k rfl rfl <| .k rfl rfl <| .k rfl rfl <| .nil) (.a (cm_f (by omega) h19).1 (by first | rfl | omega | simp <;> omega | assumption) <| .k rfl <| .nil) rfl)
        · intro h15
          replace h15 := Int.not_lt.1 (of_decide_eq_false h15)
          refine Tr.exit (Exs.thn (Exs.thn (Exs.here ?_)))
          exact End.cut (k) (by omega) (Ent.mk (.i rfl (by first | rfl | omega | simp <;> omega | assumption) <| .i rfl (by first | rfl | omega | simp <;> omega | assumption) <| .k rfl rfl <| .k rfl rfl <| .k rfl rfl <| .k rfl rfl <| .nil) (.a (by first | rfl | omega | simp <;> omega | assumption) (by first | rfl | omega | simp <;> omega | assumption) <| .k rfl <| .nil) rfl)
      · rintro _ rfl
        refine End.norm (S' := [⟨10, true, _, _⟩, ⟨60, true, _, _⟩, ⟨2, true, _, _⟩, ⟨3, true, _, _⟩, ⟨58, true, _, _⟩, ⟨59, true, _, _⟩]) (M' := [⟨3, _, _⟩, ⟨2, _, _⟩]) rfl rfl ?_; refine End.nxt (Tr.seq (Tr.seq (Tr.rg ?_))); refine mv rfl rfl rfl ?_; refine tO (ok_eql rfl uu rfl uu) rfl rfl ?_; refine TrL.fin (End.nxt ?_); refine Tr.cnd rfl ?_ ?_
        · intro h23
          replace h23 := of_decide_eq_true h23
          refine Tr.rg ?_; refine mv rfl rfl rfl ?_; refine TrL.new (ok_bsl eI 87 (fun hp => .cons rfl <| .nil) rfl rfl rfl rfl) rfl rfl rfl rfl ?_
          refine TrL.app rfl rfl rfl rfl rfl rfl rfl rfl (by first | omega | (simp only [List.length_cons, List.length_nil]; omega)) (by first | omega | (simp only [List.length_cons, List.length_nil]; omega)) ?_
          refine TrL.norm (S' := [⟨_, _, _, _⟩, ⟨_, _, _, _⟩, ⟨_, _, _, _⟩, ⟨_, _, _, _⟩, ⟨_, _, _, _⟩, ⟨_, _, _, _⟩, ⟨_, _, _, _⟩, ⟨_, _, _, _⟩, ⟨_, _, _, _⟩, ⟨_, _, _, _⟩, ⟨_, _, _, _⟩]) rfl rfl ?_; refine mw rfl rfl rfl ?_; refine TrL.fin (End.nxt (Tr.seq (Tr.rg ?_))); refine mv rfl rfl rfl ?_
          refine TrL.frz 3 [3, 88, 89] ⟨rfl, rfl, rfl, trivial⟩ (by first | (simp only [lenMax]; omega) | (simp only [lenMax, List.length_singleton]; omega)) rfl ?_
          refine TrL.norm (S' := [⟨_, _, _, _⟩, ⟨_, _, _, _⟩, ⟨_, _, _, _⟩, ⟨_, _, _, _⟩, ⟨_, _, _, _⟩, ⟨_, _, _, _⟩, ⟨_, _, _, _⟩, ⟨_, _, _, _⟩, ⟨_, _, _, _⟩, ⟨_, _, _, _⟩, ⟨_, _, _, _⟩, ⟨_, _, _, _⟩, ⟨_, _, _, _⟩, ⟨_, _, _, _⟩, ⟨_, _, _, _⟩, ⟨_, _, _, _⟩]) rfl rfl ?_; refine tO (ok_call (fun hp => ct_trimmed _) (.a rfl uu <| .nil)) rfl rfl ?_; refine tO (ok_build (fun hp => .cons rfl rfl rfl <| .cons rfl rfl rfl <| .nil)) rfl rfl ?_; refine TrL.stB rfl rfl rfl rfl ?_; refine TrL.fin (End.nxt (Tr.ret ?_)); exact Rts.resC1 (fn := Tryz.f152) rfl rfl (aggRd rfl (rd_neg0 hi (by omega) (by omega)))
        · intro h23
          replace h23 := of_decide_eq_false h23
          refine Tr.skip (End.nxt (Tr.seq (Tr.rg ?_))); refine mv rfl rfl rfl ?_
          refine TrL.frz 3 [3, 58, 89] ⟨rfl, rfl, rfl, trivial⟩ (by first | (simp only [lenMax]; omega) | (simp only [lenMax, List.length_singleton]; omega)) rfl ?_
          refine TrL.norm (S' := [⟨_, _, _, _⟩, ⟨_, _, _, _⟩, ⟨_, _, _, _⟩, ⟨_, _, _, _⟩, ⟨_, _, _, _⟩, ⟨_, _, _, _⟩, ⟨_, _, _, _⟩, ⟨_, _, _, _⟩, ⟨_, _, _, _⟩, ⟨_, _, _, _⟩, ⟨_, _, _, _⟩, ⟨_, _, _, _⟩]) rfl rfl ?_; refine tO (ok_call (fun hp => ct_trimmed _) (.a rfl uu <| .nil)) rfl rfl ?_; refine tO (ok_build (fun hp => .cons rfl rfl rfl <| .cons rfl rfl rfl <| .nil)) rfl rfl ?_; refine TrL.stB rfl rfl rfl rfl ?_; refine TrL.fin (End.nxt (Tr.ret ?_)); exact Rts.resC1 (fn := Tryz.f152) rfl rfl (aggRd rfl (rd_neg1 hi (by omega) (by omega)))

end Go.Fl

/- Contracts: integers of the package field (normal form, signs, comparisons). -/
namespace Go.Fl
open Go Go.Proofs
open TrL renaming op → tO
open RunD renaming op → rO

set_option maxRecDepth 100000 in
theorem ct_wlistZ  : Ct Tryz.prog 162 [kRd eW (wh 0)] (kRd (eL eI) []) := by
  refine Ct.mk Tryz.func162 rfl Tryz.ntmps162 rfl (fun w J => ?_); refine Tr.seq (Tr.rg ?_); refine TrL.new (ok_box 1 rfl uu rfl) rfl rfl rfl rfl ?_; refine mw rfl rfl rfl ?_; refine TrL.fin (End.nxt (Tr.seq (Tr.rg ?_))); refine tO (ok_fldO rfl uu) rfl rfl ?_; refine tO (ok_ldB rfl uu rfl) rfl rfl ?_; refine tO (ok_call (fun hp => ct_cloneI _ (by simp [digN_zero])) (.a rfl uu <| .nil)) rfl rfl ?_; refine mw rfl rfl rfl ?_; refine TrL.fin (End.nxt (Tr.seq (Tr.seq (Tr.rg ?_)))); refine tO (ok_fldO rfl uu) rfl rfl ?_; refine tO (ok_ldB rfl uu rfl) rfl rfl ?_
  refine TrL.fin (End.nxt ?_); refine Tr.cnd rfl ?_ ?_
  · intro h2
    exact absurd (of_decide_eq_true h2) (by omega)
  · intro h2
    refine Tr.skip (End.nxt (Tr.seq (Tr.seq (Tr.rg ?_)))); refine mv rfl rfl rfl ?_; refine tO (ok_lenJ rfl uu) rfl rfl ?_; refine tO (ok_eql rfl uu rfl uu) rfl rfl ?_; refine TrL.fin (End.nxt ?_); refine Tr.cnd rfl ?_ ?_
    · intro h8
      refine Tr.seq (Tr.rg ?_); refine mw rfl rfl rfl ?_; refine TrL.fin (End.nxt (Tr.ret (Rts.thn ?_))); exact Rts.res1 (fn := Tryz.f162) rfl (.n rfl rfl <| .nil)
    · intro h8
      exact absurd h8 (by simp [digN_zero])

set_option maxRecDepth 100000 in
theorem ct_wlistV (z : Int) (hz : z ≠ 0) (hn : dl z ≤ 1000000) : Ct Tryz.prog 162 [kRd eW (wh z)] (kRd (eL eI) (lstZ z)) := by
  have hp := dl_pos.2 hz
  have hl : (digN z.natAbs).length = dl z := rfl
  refine Ct.mk Tryz.func162 rfl Tryz.ntmps162 rfl (fun w J => ?_); refine Tr.seq (Tr.rg ?_); refine TrL.new (ok_box 1 rfl uu rfl) rfl rfl rfl rfl ?_; refine mw rfl rfl rfl ?_; refine TrL.fin (End.nxt (Tr.seq (Tr.rg ?_))); refine tO (ok_fldO rfl uu) rfl rfl ?_; refine tO (ok_ldB rfl uu rfl) rfl rfl ?_; refine TrL.new (ok_callN 7 (fun hp => ct_cloneN _ (by omega) (by omega)) (.a rfl uu <| .nil)) rfl rfl rfl rfl ?_; refine mw rfl rfl rfl ?_; refine TrL.fin (End.nxt (Tr.seq (Tr.seq (Tr.rg ?_)))); refine tO (ok_fldO rfl uu) rfl rfl ?_; refine tO (ok_ldB rfl uu rfl) rfl rfl ?_
  refine TrL.fin (End.nxt ?_); refine Tr.cnd rfl ?_ ?_
  · intro h2
    refine Tr.seq (Tr.rg ?_); refine mv rfl rfl rfl ?_; refine tO (ok_lenO rfl uu) rfl rfl ?_; refine mv rfl rfl rfl ?_; refine TrL.fin (End.nxt ?_)
    refine Tr.for1 (σ := Nat) [⟨3, true, _, _⟩, ⟨11, true, _, _⟩] [] (fun k => [⟨12, true, [], kI (k : Int)⟩]) (fun k => [⟨7, [], cArr false 3 eI (ngT (digN z.natAbs) k) (dl z)⟩]) (fun k => k ≤ dl z) (fun k => k = dl z) (fun k => dl z - k) (0) (Nat.zero_le _) (Ent.mk (.i rfl (by first | rfl | omega | simp <;> omega | assumption) <| .k rfl rfl <| .k rfl rfl <| .nil) (.a ngT_zero (by first | rfl | omega | simp <;> omega | assumption) <| .nil) rfl) ?_ ?_
    · intro k hR0
      refine Tr.norm (S' := [⟨12, true, _, _⟩, ⟨3, true, _, _⟩, ⟨11, true, _, _⟩]) (M' := [⟨7, _, _⟩]) rfl rfl ?_
      have hd := fun (h : k < dl z) => (digN_dg z.natAbs).at (i := k) (by omega)
      have hat := fun (h : k < dl z) => ngT_at (ds := (digN z.natAbs)) (k := k) (by omega)
      refine Tr.seq (Tr.rg ?_); refine tO (ok_lss rfl uu rfl uu) rfl rfl ?_; refine TrL.fin (End.nxt (Tr.seq ?_)); refine Tr.cnd rfl ?_ ?_
      · intro h4
        replace h4 := of_decide_eq_true h4
        refine Tr.skip (End.nxt (Tr.seq (Tr.blk (Tr.seq (Tr.rg ?_))))); refine mv rfl rfl rfl ?_; refine mw rfl rfl rfl ?_; refine TrL.fin (End.nxt (Tr.rg ?_)); refine mv rfl rfl rfl ?_; refine mv rfl rfl rfl ?_; refine mv rfl rfl rfl ?_; refine mv rfl rfl rfl ?_
        first | refine tO (ok_idxEN rfl uu rfl uu (fun _ => by omega)) rfl rfl ?_ | refine tO (ok_idxE rfl uu rfl uu (fun _ => by omega)) rfl rfl ?_
        refine tO (ok_ldE rfl uu rfl rfl rfl) rfl rfl ?_; refine tO (ok_neg rfl uu (fun _ => by omega)) rfl rfl ?_
        first | refine tO (ok_idxEN rfl uu rfl uu (fun _ => by omega)) rfl rfl ?_ | refine tO (ok_idxE rfl uu rfl uu (fun _ => by omega)) rfl rfl ?_
        refine TrL.stE rfl rfl rfl rfl rfl ?_; refine TrL.fin (End.blk (End.nxt (Tr.rg ?_))); refine tO (ok_add rfl uu rfl uu (fun _ => by omega)) rfl rfl ?_; refine mv rfl rfl rfl ?_; refine TrL.fin ?_
        exact End.lp (k + 1) (by first | rfl | omega | simp <;> omega | assumption) (by omega) (Ent.mk (.i rfl (by first | rfl | omega | simp <;> omega | assumption) <| .k rfl rfl <| .k rfl rfl <| .nil) (.a (ngT_succ (by omega)) (by first | rfl | omega | simp <;> omega | assumption) <| .nil) rfl)
      · intro h4
        replace h4 := Int.not_lt.1 (of_decide_eq_false h4)
        refine Tr.exit (Exs.thn (Exs.thn (Exs.here ?_)))
        exact End.cut (k) (by omega) (Ent.mk (.i rfl (by first | rfl | omega | simp <;> omega | assumption) <| .k rfl rfl <| .k rfl rfl <| .nil) (.a (by first | rfl | omega | simp <;> omega | assumption) (by first | rfl | omega | simp <;> omega | assumption) <| .nil) rfl)
    · rintro _ rfl
      refine End.norm (S' := [⟨12, true, _, _⟩, ⟨3, true, _, _⟩, ⟨11, true, _, _⟩]) (M' := [⟨7, _, _⟩]) rfl rfl ?_; refine End.nxt (Tr.seq (Tr.seq (Tr.rg ?_))); refine mv rfl rfl rfl ?_; refine tO (ok_lenO rfl uu) rfl rfl ?_; refine tO (ok_eql rfl uu rfl uu) rfl rfl ?_; refine TrL.fin (End.nxt ?_); refine Tr.cnd rfl ?_ ?_
      · intro h8
        replace h8 := of_decide_eq_true h8
        omega
      · intro h8
        replace h8 := of_decide_eq_false h8
        refine Tr.skip (End.nxt (Tr.seq (Tr.rg ?_))); refine mv rfl rfl rfl ?_; refine mw rfl rfl rfl ?_; refine TrL.fin (End.nxt ?_); refine Tr.frz 7 [2] ⟨rfl, trivial⟩ (by simp only [lenMax]; omega) rfl ?_; refine Tr.ret ?_; exact Rts.res1 (fn := Tryz.f162) rfl (.r rfl (lst_neg h2) <| .nil)
  · intro h2
    refine Tr.skip (End.nxt (Tr.seq (Tr.seq (Tr.rg ?_)))); refine mv rfl rfl rfl ?_; refine tO (ok_lenO rfl uu) rfl rfl ?_; refine tO (ok_eql rfl uu rfl uu) rfl rfl ?_; refine TrL.fin (End.nxt ?_); refine Tr.cnd rfl ?_ ?_
    · intro h8
      replace h8 := of_decide_eq_true h8
      omega
    · intro h8
      replace h8 := of_decide_eq_false h8
      refine Tr.skip (End.nxt (Tr.seq (Tr.rg ?_))); refine mv rfl rfl rfl ?_; refine mw rfl rfl rfl ?_; refine TrL.fin (End.nxt ?_); refine Tr.frz 7 [2] ⟨rfl, trivial⟩ (by simp only [lenMax]; omega) rfl ?_; refine Tr.ret ?_; exact Rts.res1 (fn := Tryz.f162) rfl (.r rfl (lst_pos h2) <| .nil)

theorem ct_wlist (z : Int) (hn : dl z ≤ 1000000) : Ct Tryz.prog 162 [kRd eW (wh z)] (kRd (eL eI) (lstZ z)) := by
  by_cases h : z = 0
  · subst h; exact ct_wlistZ
  · exact ct_wlistV z h hn

set_option maxRecDepth 100000 in
theorem ct_wsign (z : Int) : Ct Tryz.prog 158 [kRd eW (wh z)] (kI (cmpZ z 0)) := by
  have hp := dl_pos (z := z)
  have hl : (digN z.natAbs).length = dl z := rfl
  refine Ct.mk Tryz.func158 rfl Tryz.ntmps158 rfl (fun w J => ?_); refine Tr.seq (Tr.rg ?_); refine TrL.new (ok_box 1 rfl uu rfl) rfl rfl rfl rfl ?_; refine mw rfl rfl rfl ?_; refine TrL.fin (End.nxt (Tr.seq (Tr.blk (Tr.seq (Tr.rg ?_))))); refine tO (ok_fldO rfl uu) rfl rfl ?_; refine tO (ok_ldB rfl uu rfl) rfl rfl ?_; refine tO (ok_lenJ rfl uu) rfl rfl ?_; refine tO (ok_eql rfl uu rfl uu) rfl rfl ?_; refine mw rfl rfl rfl ?_; refine TrL.fin (End.nxt ?_); refine Tr.cnd rfl ?_ ?_
  · intro h1
    try simp only [decide_eq_true_eq] at h1
    refine Tr.seq (Tr.rg ?_); refine mw rfl rfl rfl ?_; refine TrL.fin (End.nxt (Tr.ret (Rts.out (Rts.thn ?_)))); exact Rts.res1 (fn := Tryz.f158) rfl (.i rfl (cmpZ_eq (by omega)).symm <| .nil)
  · intro h1
    try simp only [decide_eq_false_iff_not] at h1
    refine Tr.seq (Tr.rg ?_); refine tO (ok_fldO rfl uu) rfl rfl ?_; refine tO (ok_ldB rfl uu rfl) rfl rfl ?_; refine mw rfl rfl rfl ?_; refine TrL.fin (End.nxt ?_); refine Tr.cnd rfl ?_ ?_
    · intro h3
      refine Tr.seq (Tr.rg ?_); refine mw rfl rfl rfl ?_; refine TrL.fin (End.nxt (Tr.ret (Rts.out (Rts.thn ?_)))); exact Rts.res1 (fn := Tryz.f158) rfl (.i rfl (cmpZ_lt (of_decide_eq_true h3)).symm <| .nil)
    · intro h3
      refine Tr.skip (End.blk (End.nxt (Tr.seq (Tr.rg ?_)))); refine mw rfl rfl rfl ?_; refine TrL.fin (End.nxt (Tr.ret ?_)); exact Rts.res1 (fn := Tryz.f158) rfl (.i rfl (cmpZ_gt (by have := of_decide_eq_false h3; omega)).symm <| .nil)

set_option maxRecDepth 100000 in
theorem ct_wminus (z : Int) : Ct Tryz.prog 112 [kRd eW (wh z)] (kRd eW (wh (-z))) := by
  refine Ct.mk Tryz.func112 rfl Tryz.ntmps112 rfl (fun w J => ?_); refine Tr.seq (Tr.rg ?_); refine TrL.new (ok_box 1 rfl uu rfl) rfl rfl rfl rfl ?_; refine TrL.new (ok_alloc 2) rfl rfl rfl rfl ?_; refine TrL.fin (End.nxt (Tr.seq (Tr.rg ?_))); refine tO (ok_fldO rfl uu) rfl rfl ?_; refine tO (ok_ldB rfl uu rfl) rfl rfl ?_; refine tO (ok_not rfl uu) rfl rfl ?_; refine mv rfl rfl rfl ?_; refine TrL.gd rfl rfl rfl (ok_fldO rfl uu) rfl rfl ?_; refine TrL.gd rfl rfl rfl (ok_ldB rfl id rfl) rfl rfl ?_; refine TrL.gd rfl rfl rfl (ok_lenJ rfl id) rfl rfl ?_; refine TrL.gd rfl rfl rfl (ok_gtr rfl id rfl uu) rfl rfl ?_
  refine tO (ok_and rfl uu rfl (fun hp h => gdT2 ((fun _ => rfl) hp) h)) rfl rfl ?_; refine tO (ok_fldO rfl uu) rfl rfl ?_; refine TrL.stB rfl rfl rfl rfl ?_; refine TrL.fin (End.nxt (Tr.seq (Tr.rg ?_))); refine tO (ok_ldBS rfl uu) rfl rfl ?_; refine TrL.stB rfl rfl rfl rfl ?_; refine TrL.fin (End.nxt (Tr.ret ?_)); exact Rts.resC1 (fn := Tryz.f112) rfl rfl (aggRd rfl wh_minus)

set_option maxRecDepth 100000 in
theorem ct_fsmall (n : Int) (hn : -9223372036854775808 ≤ n ∧ n ≤ 9223372036854775807) : Ct Tryz.prog 108 [kI n] (kRd eW (wh n)) := by
  refine Ct.mk Tryz.func108 rfl Tryz.ntmps108 rfl (fun w J => ?_); refine Tr.seq (Tr.rg ?_); refine TrL.new (ok_alloc 2) rfl rfl rfl rfl ?_; refine TrL.fin (End.nxt (Tr.seq (Tr.rg ?_))); refine mv rfl rfl rfl ?_; refine tO (ok_bslJ eI (fun hp => .cons rfl <| .nil) rfl rfl rfl rfl) rfl rfl ?_; refine tO (ok_call (fun hp => ct_fread [n] (fun i hi => by (simp at hi; subst hi; exact hn)) (by simp)) (.a rfl uu <| .nil)) rfl rfl ?_; refine TrL.stB rfl rfl rfl rfl ?_; refine TrL.fin (End.nxt (Tr.ret ?_)); exact Rts.resC1 (fn := Tryz.f108) rfl rfl (aggRd rfl (by rw [val_one]; rfl))

set_option maxRecDepth 100000 in
theorem ct_sizes (m n : Nat) (hm : (digN m).length ≤ 10000000) (_ : (digN n).length ≤ 10000000) : Ct Tryz.prog 154 [kRd (eL eI) (digN m), kRd (eL eI) (digN n)] (kI (cmpZ m n)) := by
  refine Ct.mk Tryz.func154 rfl Tryz.ntmps154 rfl (fun w J => ?_); refine Tr.seq (Tr.rg ?_); refine mw rfl rfl rfl ?_; refine TrL.fin (End.nxt (Tr.seq (Tr.seq (Tr.rg ?_)))); refine mv rfl rfl rfl ?_; refine tO (ok_lenJ rfl uu) rfl rfl ?_; refine mv rfl rfl rfl ?_; refine tO (ok_lenJ rfl uu) rfl rfl ?_; refine tO (ok_neq rfl uu rfl uu) rfl rfl ?_; refine TrL.fin (End.nxt ?_); refine Tr.cnd rfl ?_ ?_
  · intro h1
    replace h1 := of_decide_eq_true h1
    refine Tr.seq (Tr.rg ?_); refine mv rfl rfl rfl ?_; refine tO (ok_lenJ rfl uu) rfl rfl ?_; refine mv rfl rfl rfl ?_; refine tO (ok_lenJ rfl uu) rfl rfl ?_; refine tO (ok_call (fun hp => ct_cmpZc _ _) (.a rfl uu <| .a rfl uu <| .nil)) rfl rfl ?_; refine mw rfl rfl rfl ?_; refine TrL.fin (End.nxt (Tr.ret (Rts.thn ?_))); exact Rts.res1 (fn := Tryz.f154) rfl (.i rfl (cmpZ_dl (by omega)) <| .nil)
  · intro h1
    replace h1 := Classical.not_not.1 (of_decide_eq_false h1)
    refine Tr.skip (End.nxt (Tr.seq (Tr.seq (Tr.rg ?_)))); refine mv rfl rfl rfl ?_; refine tO (ok_lenJ rfl uu) rfl rfl ?_; refine tO (ok_sub rfl uu rfl uu (fun _ => by omega)) rfl rfl ?_; refine mw rfl rfl rfl ?_; refine TrL.fin (End.nxt ?_)
    refine Tr.for1 (σ := Nat) [⟨0, true, _, _⟩, ⟨1, true, _, _⟩] [] (fun i => [⟨5, true, [], kI ((i : Int) - 1)⟩]) (fun i => []) (fun i => i ≤ (digN m).length ∧ ∀ j, i ≤ j → j < (digN m).length → nth (digN m) j = nth (digN n) j) (fun i => i = 0 ∧ ∀ j, i ≤ j → j < (digN m).length → nth (digN m) j = nth (digN n) j) (fun i => i) ((digN m).length) ⟨by omega, fun j h1 h2 => absurd h1 (by omega)⟩ (Ent.mk (.i rfl (by first | rfl | omega | simp <;> omega | assumption) <| .k rfl rfl <| .k rfl rfl <| .nil) (.nil) rfl) ?_ ?_
    · rintro i ⟨hi, hR⟩
      refine Tr.norm (S' := [⟨5, true, _, _⟩, ⟨0, true, _, _⟩, ⟨1, true, _, _⟩]) (M' := []) rfl rfl ?_
      have e1 : ((i : Int) - 1).toNat = i - 1 := by omega
      refine Tr.seq (Tr.seq (Tr.rg ?_)); refine mv rfl rfl rfl ?_; refine tO (ok_geq rfl uu rfl uu) rfl rfl ?_; refine TrL.fin (End.nxt ?_); refine Tr.cnd rfl ?_ ?_
      · intro h4
        replace h4 := of_decide_eq_true h4
        refine Tr.skip (End.nxt (Tr.seq (Tr.blk (Tr.seq ?_)))); refine Tr.draw 8 mixed (by kernel_rfl) ?_; refine rO (ok_move rfl uu) rfl rfl ?_; refine rO (ok_move rfl uu) rfl rfl ?_
        first | refine rO (ok_idxN rfl uu rfl uu rfl (fun _ => by omega)) rfl rfl ?_ | refine rO (ok_idxP rfl uu rfl uu rfl (fun _ => by omega)) rfl rfl ?_
        refine rO (ok_ldP rfl uu rfl) rfl rfl ?_; refine rO (ok_move rfl uu) rfl rfl ?_; refine rO (ok_move rfl uu) rfl rfl ?_
        first | refine rO (ok_idxN rfl uu rfl uu rfl (fun _ => by omega)) rfl rfl ?_ | refine rO (ok_idxP rfl uu rfl uu rfl (fun _ => by omega)) rfl rfl ?_
        refine rO (ok_ldP rfl uu rfl) rfl rfl ?_; refine RunD.z ?_; refine tO (ok_neq rfl uu rfl uu) rfl rfl ?_; refine TrL.fin (End.nxt ?_); refine Tr.cnd rfl ?_ ?_
        · intro h6
          replace h6 := of_decide_eq_true h6
          refine Tr.seq ?_; refine Tr.draw 8 mixed (by kernel_rfl) ?_; refine rO (ok_move rfl uu) rfl rfl ?_; refine rO (ok_move rfl uu) rfl rfl ?_
          first | refine rO (ok_idxN rfl uu rfl uu rfl (fun _ => by omega)) rfl rfl ?_ | refine rO (ok_idxP rfl uu rfl uu rfl (fun _ => by omega)) rfl rfl ?_
          refine rO (ok_ldP rfl uu rfl) rfl rfl ?_; refine rO (ok_move rfl uu) rfl rfl ?_; refine rO (ok_move rfl uu) rfl rfl ?_
          first | refine rO (ok_idxN rfl uu rfl uu rfl (fun _ => by omega)) rfl rfl ?_ | refine rO (ok_idxP rfl uu rfl uu rfl (fun _ => by omega)) rfl rfl ?_
          refine rO (ok_ldP rfl uu rfl) rfl rfl ?_; refine RunD.z ?_; refine tO (ok_call (fun hp => ct_cmpZc _ _) (.a rfl uu <| .a rfl uu <| .nil)) rfl rfl ?_; refine mw rfl rfl rfl ?_; refine TrL.fin (End.nxt (Tr.ret (Rts.out (Rts.thn (Rts.thn (Rts.out (Rts.thn (Rts.thn ?_)))))))); exact Rts.res1 (fn := Tryz.f154) rfl (.i rfl (by rw [e1]; exact cmpZ_at (by omega) (by omega) (fun j h1 h2 => hR j (by omega) h2) (by rw [← e1]; exact h6)) <| .nil)
        · intro h6
          replace h6 := Classical.not_not.1 (of_decide_eq_false h6)
          refine Tr.skip (End.blk (End.nxt (Tr.rg ?_))); refine mv rfl rfl rfl ?_; refine tO (ok_sub rfl uu rfl uu (fun _ => by omega)) rfl rfl ?_; refine mw rfl rfl rfl ?_; refine TrL.fin ?_
          exact End.lp (i - 1) ⟨by omega, fun j h1 h2 => by (by_cases e : j = i - 1; subst e; rw [← e1]; exact h6; exact hR j (by omega) h2)⟩ (by omega) (Ent.mk (.i rfl (by first | rfl | omega | simp <;> omega | assumption) <| .k rfl rfl <| .k rfl rfl <| .nil) (.nil) rfl)
      · intro h4
        replace h4 := Int.not_le.1 (of_decide_eq_false h4)
        refine Tr.exit (Exs.thn (Exs.thn (Exs.here ?_)))
        exact End.cut (i) ⟨by omega, hR⟩ (Ent.mk (.i rfl (by first | rfl | omega | simp <;> omega | assumption) <| .k rfl rfl <| .k rfl rfl <| .nil) (.nil) rfl)
    · rintro i ⟨hi, hR⟩
      refine End.norm (S' := [⟨5, true, _, _⟩, ⟨0, true, _, _⟩, ⟨1, true, _, _⟩]) (M' := []) rfl rfl ?_; refine End.nxt (Tr.seq (Tr.rg ?_)); refine mw rfl rfl rfl ?_; refine TrL.fin (End.nxt (Tr.ret ?_)); exact Rts.res1 (fn := Tryz.f154) rfl (.i rfl (by subst hi; exact cmpZ_all (by omega) hR) <| .nil)

set_option maxRecDepth 100000 in
theorem ct_short (a : List Int) (n : Int) (ha : Dg a) (hl : a.length ≤ 10000000) (hn : 0 < n ∧ n ≤ 100000000) : Ct Tryz.prog 211 [kRd (eL eI) a, kI n] (kTup [kRd (eL eI) (digN (val a / n).toNat), kI (val a % n)]) := by
  refine Ct.mk Tryz.func211 rfl Tryz.ntmps211 rfl (fun w J => ?_); refine Tr.seq (Tr.rg ?_); refine mw rfl rfl rfl ?_; refine mw rfl rfl rfl ?_; refine TrL.fin (End.nxt (Tr.seq (Tr.rg ?_))); refine mv rfl rfl rfl ?_; refine tO (ok_lenJ rfl uu) rfl rfl ?_; refine TrL.new (ok_makeN eI 11 rfl uu rfl uu rfl rfl rfl (fun _ => by omega)) rfl rfl rfl rfl ?_; refine mw rfl rfl rfl ?_; refine mw rfl rfl rfl ?_; refine TrL.fin (End.nxt (Tr.seq (Tr.seq (Tr.rg ?_)))); refine mv rfl rfl rfl ?_; refine tO (ok_lenJ rfl uu) rfl rfl ?_
  refine tO (ok_sub rfl uu rfl uu (fun _ => by omega)) rfl rfl ?_; refine mw rfl rfl rfl ?_; refine TrL.fin (End.nxt ?_)
  refine Tr.for1 (σ := Nat × List Int × Int) [⟨0, true, _, _⟩, ⟨1, true, _, _⟩, ⟨6, true, _, _⟩] [] (fun (i, o, r) => [⟨7, true, [], kI r⟩, ⟨8, true, [], kI ((i : Int) - 1)⟩]) (fun (i, o, r) => [⟨11, [], cArr false 3 eI o a.length⟩]) (fun (i, o, r) => i ≤ a.length ∧ ShS a o n i r) (fun (i, o, r) => i = 0 ∧ ShS a o n 0 r) (fun (i, o, r) => i) ((a.length, List.replicate a.length 0, 0)) ⟨Nat.le_refl _, ShS.start hn.1⟩ (Ent.mk (.i rfl (by first | rfl | omega | simp <;> omega | assumption) <| .i rfl (by first | rfl | omega | simp <;> omega | assumption) <| .k rfl rfl <| .k rfl rfl <| .k rfl rfl <| .nil) (.a (by first | rfl | omega | simp <;> omega | assumption) (by first | rfl | omega | simp <;> omega | assumption) <| .nil) rfl) ?_ ?_
  · rintro ⟨i, o, r⟩ ⟨hi, hs⟩
    refine Tr.norm (S' := [⟨7, true, _, _⟩, ⟨8, true, _, _⟩, ⟨0, true, _, _⟩, ⟨1, true, _, _⟩, ⟨6, true, _, _⟩]) (M' := [⟨11, _, _⟩]) rfl rfl ?_
    have e1 : ((i : Int) - 1).toNat = i - 1 := by omega
    have hr0 := hs.r0
    have hq := fun (h : 0 < i) => ShS.q (i := i - 1) ha (by rw [show i - 1 + 1 = i by omega]; exact hs) (by omega)
    have ha1 := fun (h : 0 < i) => ha.at (i := i - 1) (by omega)
    refine Tr.seq (Tr.seq (Tr.rg ?_)); refine mv rfl rfl rfl ?_; refine tO (ok_geq rfl uu rfl uu) rfl rfl ?_; refine TrL.fin (End.nxt ?_); refine Tr.cnd rfl ?_ ?_
    · intro h3
      replace h3 := of_decide_eq_true h3
      refine Tr.skip (End.nxt (Tr.seq (Tr.blk (Tr.seq (Tr.rg ?_)))))
      have ha2 := ha1 (by omega)
      rw [← e1] at ha2
      refine mv rfl rfl rfl ?_; refine tO (ok_mul rfl uu rfl uu (fun _ => by omega)) rfl rfl ?_; refine mv rfl rfl rfl ?_; refine mv rfl rfl rfl ?_
      first | refine tO (ok_idxN rfl uu rfl uu rfl (fun _ => by omega)) rfl rfl ?_ | refine tO (ok_idxP rfl uu rfl uu rfl (fun _ => by omega)) rfl rfl ?_
      refine tO (ok_ldP rfl uu rfl) rfl rfl ?_; refine tO (ok_add rfl uu rfl uu (fun _ => by omega)) rfl rfl ?_; refine mw rfl rfl rfl ?_; refine TrL.fin (End.nxt ?_); refine Tr.drawS 9 11 mixed (by kernel_rfl) ?_
      obtain ⟨q1, q2, q3, q4⟩ := hq (by omega)
      rw [← e1] at q1 q2
      rw [← Int.tdiv_eq_ediv_of_nonneg (by omega)] at q1 q2
      refine RunS.opA (ok_move rfl uu) (by kernel_rfl) rfl rfl ?_; refine RunS.opA (ok_move rfl uu) (by kernel_rfl) rfl rfl ?_; refine RunS.opA (ok_move rfl uu) (by kernel_rfl) rfl rfl ?_; refine RunS.opA (ok_move rfl uu) (by kernel_rfl) rfl rfl ?_; refine RunS.opA (ok_quo rfl uu rfl uu (fun _ => by omega)) (by kernel_rfl) rfl rfl ?_; refine RunS.op (ok_move rfl uu) rfl rfl ?_; refine RunS.op (ok_move rfl uu) rfl rfl ?_; refine RunS.op (ok_rem rfl uu rfl uu (fun _ => by omega)) rfl rfl ?_
      first | refine RunS.opA (ok_idxEN rfl uu rfl uu (fun _ => by omega)) (by kernel_rfl) rfl rfl ?_ | refine RunS.opA (ok_idxE rfl uu rfl uu (fun _ => by omega)) (by kernel_rfl) rfl rfl ?_
      refine RunS.z (st_E rfl rfl rfl rfl rfl) rfl rfl rfl ?_; refine mw rfl rfl rfl ?_; refine TrL.fin (End.blk (End.nxt (Tr.rg ?_))); refine mv rfl rfl rfl ?_; refine tO (ok_sub rfl uu rfl uu (fun _ => by omega)) rfl rfl ?_; refine mw rfl rfl rfl ?_; refine TrL.fin ?_
      exact End.lp ((i - 1, o.set (i - 1) ((r * 100000000 + nth a (i - 1)) / n), (r * 100000000 + nth a (i - 1)) % n)) ⟨by omega, ShS.next ha (by rw [show i - 1 + 1 = i by omega]; exact hs) (by omega)⟩ (by show i - 1 < i; omega) (Ent.mk (.i rfl (by rw [e1, Int.tmod_eq_emod_of_nonneg (by omega)]) <| .i rfl (by first | rfl | omega | simp <;> omega | assumption) <| .k rfl rfl <| .k rfl rfl <| .k rfl rfl <| .nil) (.a (by rw [e1, Int.tdiv_eq_ediv_of_nonneg (by omega)]) (by first | rfl | omega | simp <;> omega | assumption) <| .nil) rfl)
    · intro h3
      replace h3 := Int.not_le.1 (of_decide_eq_false h3)
      refine Tr.exit (Exs.thn (Exs.thn (Exs.here ?_)))
      exact End.cut ((i, o, r)) (by obtain rfl : i = 0 := (by omega); exact ⟨rfl, hs⟩) (Ent.mk (.i rfl (by first | rfl | omega | simp <;> omega | assumption) <| .i rfl (by first | rfl | omega | simp <;> omega | assumption) <| .k rfl rfl <| .k rfl rfl <| .k rfl rfl <| .nil) (.a (by first | rfl | omega | simp <;> omega | assumption) (by first | rfl | omega | simp <;> omega | assumption) <| .nil) rfl)
  · rintro ⟨i, o, r⟩ ⟨rfl, hs⟩
    refine End.norm (S' := [⟨7, true, _, _⟩, ⟨8, true, _, _⟩, ⟨0, true, _, _⟩, ⟨1, true, _, _⟩, ⟨6, true, _, _⟩]) (M' := [⟨11, _, _⟩]) rfl rfl ?_; refine End.nxt (Tr.seq (Tr.rg ?_)); refine mv rfl rfl rfl ?_; refine TrL.frz 11 [6, 35] ⟨rfl, rfl, trivial⟩ (by simp only [lenMax]; omega) rfl ?_; refine TrL.norm (S' := [⟨_, _, _, _⟩, ⟨_, _, _, _⟩, ⟨_, _, _, _⟩, ⟨_, _, _, _⟩, ⟨_, _, _, _⟩, ⟨_, _, _, _⟩, ⟨_, _, _, _⟩, ⟨_, _, _, _⟩]) rfl rfl ?_; refine tO (ok_call (fun hp => ct_trimmed _) (.a rfl uu <| .nil)) rfl rfl ?_; refine mv rfl rfl rfl ?_; refine mw rfl rfl rfl ?_
    refine mw rfl rfl rfl ?_; refine TrL.fin (End.nxt (Tr.ret ?_)); exact Rts.res (fn := Tryz.f211) (ts := [4, 5]) rfl rfl (.r rfl hs.fin.1 <| .i rfl hs.fin.2 <| .nil)

end Go.Fl

/- Integers: differences in place, sums and products, as the contracts want them. Plain Lean, no program in sight. -/
namespace Go.Fl
def sbU (a b : List Int) (k : Nat) : Int := nth a k - sb a b k - xAt b k
section
variable {a b : List Int} {k : Nat}
theorem sb_succ : sb a b (k + 1) = if sbU a b k < 0 then 1 else 0 := rfl
theorem sb_m1 (hk : k < a.length) (hb : k < b.length) : ((sbL a b k).set k (nth (sbL a b k) k - sb a b k)).set k (nth ((sbL a b k).set k (nth (sbL a b k) k - sb a b k)) k - nth b k) = (sbL a b k).set k (sbU a b k) := by
  rw [List.set_set, nth_set (by rw [sbL_len]; exact hk), if_pos rfl, sbL_at hk]
  unfold sbU
  rw [xAt_in hb]
theorem sb_m2 (hk : k < a.length) (hb : ¬ k < b.length) : (sbL a b k).set k (nth (sbL a b k) k - sb a b k) = (sbL a b k).set k (sbU a b k) := by
  rw [sbL_at hk]
  unfold sbU
  rw [xAt_out hb, Int.sub_zero]
theorem sb_w (hk : k < a.length) : nth ((sbL a b k).set k (nth (sbL a b k) k - sb a b k)) k = nth a k - sb a b k := by rw [nth_set (by rw [sbL_len]; exact hk), if_pos rfl, sbL_at hk]
theorem sb_v (hk : k < a.length) : nth ((sbL a b k).set k (sbU a b k)) k = sbU a b k := by rw [nth_set (by rw [sbL_len]; exact hk), if_pos rfl]
theorem sb_t (hk : k < a.length) (h : nth ((sbL a b k).set k (sbU a b k)) k < 0) : ((sbL a b k).set k (sbU a b k)).set k (nth ((sbL a b k).set k (sbU a b k)) k + 100000000) = sbL a b (k + 1) ∧ (1 : Int) = sb a b (k + 1) := by
  rw [sb_v hk] at h ⊢
  refine ⟨?_, by rw [sb_succ, if_pos h]⟩
  rw [List.set_set, ← sbL_succ]
  congr 1
  unfold sbU at h ⊢; unfold sbD; rw [if_pos h]
theorem sb_f (hk : k < a.length) (h : 0 ≤ nth ((sbL a b k).set k (sbU a b k)) k) : (sbL a b k).set k (sbU a b k) = sbL a b (k + 1) ∧ (0 : Int) = sb a b (k + 1) := by
  rw [sb_v hk] at h
  refine ⟨?_, by rw [sb_succ, if_neg (by omega)]⟩
  rw [← sbL_succ]
  congr 1
  unfold sbD; rw [if_neg (by unfold sbU at h; omega)]; rfl
end
theorem trim_pre : ∀ {xs : List Int}, xs.take (trimL xs).length = trimL xs
  | [] => rfl
  | x :: xs => by
    rw [trimL]
    split
    · rfl
    · rw [List.length_cons, List.take_succ_cons, trim_pre]
theorem digN_len_le {m n : Nat} (h : n ≤ m) : (digN n).length ≤ (digN m).length := by
  have h1 := dl_lt (m : Int)
  exact dl_le (z := (n : Int)) (k := (digN m).length) (by rw [Int.natAbs_natCast]; rw [Int.natAbs_natCast] at h1; exact Int.lt_of_le_of_lt (by omega) h1)
theorem sub_dig {m n : Nat} (h : n ≤ m) : List.take (trimL (sbL (digN m) (digN n) (digN m).length)).length (sbL (digN m) (digN n) (digN m).length) = digN (m - n) := by
  have hm := digN_val m; have hn := digN_val n
  have hle := digN_len_le h
  rw [trim_pre, sub_spec (digN_dg m) (digN_dg n) hle (by omega)]
  congr 1; omega
structure AdR (a b : Int) (X Y : List Int) : Prop where
  nx : Nm X
  ny : Nm Y
  le : Y.length ≤ X.length
  hi : X.length ≤ 10000000
  v : val X + val Y = a.natAbs + b.natAbs
section
variable {a b : Int} {X Y : List Int}
theorem AdR.l (h : (digN b.natAbs).length ≤ (digN a.natAbs).length) (hi : dl a ≤ 10000000) : AdR a b (digN a.natAbs) (digN b.natAbs) := ⟨digN_nm _, digN_nm _, h, hi, by rw [digN_val, digN_val]⟩
theorem AdR.r (h : (digN a.natAbs).length < (digN b.natAbs).length) (hi : dl b ≤ 10000000) : AdR a b (digN b.natAbs) (digN a.natAbs) := ⟨digN_nm _, digN_nm _, by omega, hi, by rw [digN_val, digN_val, Int.add_comm]⟩
theorem wh_same (hs : decide (a < 0) = decide (b < 0)) {ds : List Int} (hd : ds = digN (a.natAbs + b.natAbs)) : (decide (a < 0), ds) = wh (a + b) := by
  have e : (a < 0) = (b < 0) := by simpa using hs
  refine wh_mk ?_ ?_
  · by_cases h : a < 0
    · have : b < 0 := e ▸ h
      simp [h]; omega
    · have : ¬ b < 0 := e ▸ h
      simp [h]; omega
  · rw [hd]
    congr 1
    by_cases h : a < 0
    · have : b < 0 := e ▸ h
      omega
    · have : ¬ b < 0 := e ▸ h
      omega
theorem AdR.zero (h : AdR a b X Y) (hs : decide (a < 0) = decide (b < 0)) (hc : (adS X Y X.length).2 ≤ 0) : (decide (a < 0), (adS X Y X.length).1) = wh (a + b) := by
  have h1 := adS_c h.nx.dg h.ny.dg (Nat.le_refl X.length)
  refine wh_same hs ?_
  rw [add_zero h.nx h.ny h.le (by omega), h.v]; congr 1
theorem AdR.one (h : AdR a b X Y) (hs : decide (a < 0) = decide (b < 0)) (hc : 0 < (adS X Y X.length).2) : (decide (a < 0), (adS X Y X.length).1 ++ [(adS X Y X.length).2]) = wh (a + b) := by
  have h1 := adS_c h.nx.dg h.ny.dg (Nat.le_refl X.length)
  have h2 : (adS X Y X.length).2 = 1 := by omega
  refine wh_same hs ?_
  rw [h2, add_one h.nx h.ny h.le h2, h.v]; congr 1
theorem wh_null (hs : decide (a < 0) ≠ decide (b < 0)) (h : cmpZ (a.natAbs : Nat) (b.natAbs : Nat) = 0) : (false, []) = wh (a + b) := by
  have e : a.natAbs = b.natAbs := by unfold cmpZ at h; split at h <;> (try split at h) <;> omega
  have : a + b = 0 := by
    by_cases h1 : a < 0 <;> by_cases h2 : b < 0
    · exact absurd (by simp [h1, h2]) hs
    · omega
    · omega
    · exact absurd (by simp [h1, h2]) hs
  rw [this]; rfl
theorem cmpZ_1 {m n : Int} (h : cmpZ m n = 1) : n < m := by unfold cmpZ at h; split at h <;> (try split at h) <;> omega
theorem cmpZ_m {m n : Int} (h0 : cmpZ m n ≠ 0) (h : cmpZ m n ≠ 1) : m < n := by unfold cmpZ at h h0; split at h <;> (try split at h) <;> omega
theorem wh_left (hs : decide (a < 0) ≠ decide (b < 0)) (h : b.natAbs < a.natAbs) {ds : List Int} (hd : ds = digN (a.natAbs - b.natAbs)) : (decide (a < 0), ds) = wh (a + b) := by
  have h3 : (a < 0 ∧ ¬ b < 0) ∨ (¬ a < 0 ∧ b < 0) := by
    by_cases h1 : a < 0 <;> by_cases h2 : b < 0
    · exact absurd (by simp [h1, h2]) hs
    · exact .inl ⟨h1, h2⟩
    · exact .inr ⟨h1, h2⟩
    · exact absurd (by simp [h1, h2]) hs
  refine wh_mk ?_ (by rw [hd]; congr 1; omega)
  by_cases h1 : a < 0
  · simp [h1]; omega
  · simp [h1]; omega
theorem wh_right (hs : decide (a < 0) ≠ decide (b < 0)) (h : a.natAbs < b.natAbs) {ds : List Int} (hd : ds = digN (b.natAbs - a.natAbs)) : (decide (b < 0), ds) = wh (a + b) := by
  rw [Int.add_comm]; exact wh_left (fun e => hs e.symm) h hd
end
theorem wh_mul {a b : Int} (ha : a ≠ 0) (hb : b ≠ 0) {o : List Int} (h : MuR (digN a.natAbs) (digN b.natAbs) o (digN a.natAbs).length) : (decide (decide (a < 0) ≠ decide (b < 0)), trimL o) = wh (a * b) := by
  have e := h.fin (digN_dg _) (digN_dg _)
  rw [digN_val, digN_val] at e
  refine wh_mk ?_ (by rw [e]; congr 1; rw [Int.natAbs_mul]; omega)
  by_cases h1 : a < 0 <;> by_cases h2 : b < 0
  · have := Int.mul_pos_of_neg_of_neg h1 h2; simp [h1, h2]; omega
  · have := Int.mul_neg_of_neg_of_pos h1 (show 0 < b by omega); simp [h1, h2]; omega
  · have := Int.mul_neg_of_pos_of_neg (show 0 < a by omega) h2; simp [h1, h2]; omega
  · have := Int.mul_pos (show 0 < a by omega) (show 0 < b by omega); simp [h1, h2]; omega
theorem wh_mul0 {a b : Int} (h : a = 0 ∨ b = 0) : (false, []) = wh (a * b) := by
  rcases h with rfl | rfl
  · rw [Int.zero_mul]; rfl
  · rw [Int.mul_zero]; rfl
theorem mul_dig {a b : Int} {o : List Int} (h : MuR (digN a.natAbs) (digN b.natAbs) o (digN a.natAbs).length) : trimL o = digN (a * b).natAbs := by
  have e := h.fin (digN_dg _) (digN_dg _)
  rw [digN_val, digN_val] at e
  rw [e]; congr 1; rw [Int.natAbs_mul]; omega
end Go.Fl

/- Contracts: integers of the package field (differences in place, sums, products). -/
namespace Go.Fl
open Go Go.Proofs
open TrL renaming op → tO
open RunD renaming op → rO

set_option maxRecDepth 100000 in
theorem ct_fless (a b : List Int) (ha : Dg a) (hb : Dg b) (_ : b.length ≤ a.length) (h0 : 0 < a.length) (hn : a.length ≤ 10000000) : CtR Tryz.prog 155 (a.length) [kRd (eL eI) b] (cArr false 3 eI a a.length) (cArr false 3 eI (sbL a b a.length) a.length) (kOsq 0 1 0 (trimL (sbL a b a.length)).length) := by
  refine CtR.mk Tryz.func155 rfl Tryz.ntmps155 rfl (fun w J bb cap => ?_); refine Tr.seq (Tr.rg ?_); refine mw rfl rfl rfl ?_; refine TrL.fin (End.nxt (Tr.seq (Tr.rg ?_))); refine mw rfl rfl rfl ?_; refine TrL.fin (End.nxt (Tr.seq (Tr.seq (Tr.rg ?_)))); refine tO (ok_moveAt rfl uu) rfl rfl ?_; refine tO (ok_lenO rfl uu) rfl rfl ?_; refine mv rfl rfl rfl ?_; refine TrL.fin (End.nxt ?_)
  refine Tr.for1 (σ := Nat) [⟨0, true, _, _⟩, ⟨1, true, _, _⟩, ⟨8, true, _, _⟩] [] (fun k => [⟨9, true, [], kI (k : Int)⟩, ⟨5, true, [], kI (sb a b k)⟩]) (fun k => [⟨0, [], cArr false 3 eI (sbL a b k) a.length⟩]) (fun k => k ≤ a.length) (fun k => k = a.length) (fun k => a.length - k) (0) (Nat.zero_le _) (Ent.mk (.i rfl (by first | rfl | omega | simp <;> omega | assumption) <| .i rfl (by first | rfl | omega | simp <;> omega | assumption) <| .k rfl rfl <| .k rfl rfl <| .k rfl rfl <| .nil) (.a sbL_zero (by first | rfl | omega | simp <;> omega | assumption) <| .nil) rfl) ?_ ?_
  · intro k hR0
    refine Tr.norm (S' := [⟨9, true, _, _⟩, ⟨5, true, _, _⟩, ⟨0, true, _, _⟩, ⟨1, true, _, _⟩, ⟨8, true, _, _⟩]) (M' := [⟨0, _, _⟩]) rfl rfl ?_
    have hbx := hb.x k
    have h01 := sb_01 (a := a) (b := b) (k := k)
    have hcl := sbL_len (a := a) (b := b) (k := k)
    have had := fun (h : k < a.length) => ha.at (i := k) h
    have hat := fun (h : k < a.length) => sbL_at (a := a) (b := b) h
    have hw := fun (h : k < a.length) => sb_w (b := b) h
    have hv := fun (h : k < a.length) => sb_v (b := b) h
    have hbi := fun (h : k < b.length) => xAt_in h
    have hU : sbU a b k = nth a k - sb a b k - xAt b k := rfl
    refine Tr.seq (Tr.rg ?_); refine tO (ok_lss rfl uu rfl uu) rfl rfl ?_; refine TrL.fin (End.nxt (Tr.seq ?_)); refine Tr.cnd rfl ?_ ?_
    · intro h3
      replace h3 := of_decide_eq_true h3
      refine Tr.skip (End.nxt (Tr.seq (Tr.blk (Tr.seq (Tr.rg ?_))))); refine mv rfl rfl rfl ?_; refine mw rfl rfl rfl ?_; refine TrL.fin (End.nxt (Tr.seq (Tr.rg ?_))); refine tO (ok_moveAt rfl uu) rfl rfl ?_; refine mv rfl rfl rfl ?_
      first | refine tO (ok_idxEN rfl uu rfl uu (fun _ => by omega)) rfl rfl ?_ | refine tO (ok_idxE rfl uu rfl uu (fun _ => by omega)) rfl rfl ?_
      refine tO (ok_ldE rfl uu rfl rfl rfl) rfl rfl ?_; refine mv rfl rfl rfl ?_; refine tO (ok_sub rfl uu rfl uu (fun _ => by omega)) rfl rfl ?_
      first | refine tO (ok_idxEN rfl uu rfl uu (fun _ => by omega)) rfl rfl ?_ | refine tO (ok_idxE rfl uu rfl uu (fun _ => by omega)) rfl rfl ?_
      refine TrL.stE rfl rfl rfl rfl rfl ?_; refine TrL.fin (End.nxt ?_); refine Tr.meet2 (σ := Unit) [⟨0, true, _, _⟩, ⟨1, true, _, _⟩, ⟨6, true, _, _⟩, ⟨8, true, _, _⟩, ⟨9, true, _, _⟩] [] (.k rfl rfl <| .k rfl rfl <| .k rfl rfl <| .k rfl rfl <| .k rfl rfl <| .nil) (.nil) (fun _ => []) (fun _ => [⟨0, [], cArr false 3 eI ((sbL a b k).set k (sbU a b k)) a.length⟩]) (fun _ => True) ?_ ?_
      · skip
        refine Tr.seq (Tr.rg ?_); refine mv rfl rfl rfl ?_; refine mv rfl rfl rfl ?_; refine tO (ok_lenJ rfl uu) rfl rfl ?_; refine tO (ok_lss rfl uu rfl uu) rfl rfl ?_; refine TrL.fin (End.nxt ?_); refine Tr.cnd rfl ?_ ?_
        · intro h6
          replace h6 := of_decide_eq_true h6
          refine Tr.draw 8 mixed (by kernel_rfl) ?_; refine rO (ok_moveAt rfl uu) rfl rfl ?_; refine rO (ok_move rfl uu) rfl rfl ?_
          first | refine rO (ok_idxEN rfl uu rfl uu (fun _ => by omega)) rfl rfl ?_ | refine rO (ok_idxE rfl uu rfl uu (fun _ => by omega)) rfl rfl ?_
          refine rO (ok_ldE rfl uu rfl rfl rfl) rfl rfl ?_; refine rO (ok_move rfl uu) rfl rfl ?_; refine rO (ok_move rfl uu) rfl rfl ?_
          first | refine rO (ok_idxN rfl uu rfl uu rfl (fun _ => by omega)) rfl rfl ?_ | refine rO (ok_idxP rfl uu rfl uu rfl (fun _ => by omega)) rfl rfl ?_
          refine rO (ok_ldP rfl uu rfl) rfl rfl ?_; refine RunD.z ?_; refine tO (ok_sub rfl uu rfl uu (fun _ => by omega)) rfl rfl ?_
          first | refine tO (ok_idxEN rfl uu rfl uu (fun _ => by omega)) rfl rfl ?_ | refine tO (ok_idxE rfl uu rfl uu (fun _ => by omega)) rfl rfl ?_
          refine TrL.stE rfl rfl rfl rfl rfl ?_; refine TrL.fin ?_
          exact End.cut (()) (by first | rfl | omega | simp <;> omega | assumption) (Ent.mk (.k rfl rfl <| .k rfl rfl <| .k rfl rfl <| .k rfl rfl <| .k rfl rfl <| .nil) (.a (sb_m1 (by omega) (by omega)) (by first | rfl | omega | simp <;> omega | assumption) <| .nil) rfl)
        · intro h6
          replace h6 := Int.not_lt.1 (of_decide_eq_false h6)
          refine Tr.skip ?_
          exact End.cut (()) (by first | rfl | omega | simp <;> omega | assumption) (Ent.mk (.k rfl rfl <| .k rfl rfl <| .k rfl rfl <| .k rfl rfl <| .k rfl rfl <| .nil) (.a (sb_m2 (by omega) (by omega)) (by first | rfl | omega | simp <;> omega | assumption) <| .nil) rfl)
      · intro _ hM
        refine Tr.norm (S' := [⟨0, true, _, _⟩, ⟨1, true, _, _⟩, ⟨6, true, _, _⟩, ⟨8, true, _, _⟩, ⟨9, true, _, _⟩]) (M' := [⟨0, _, _⟩]) rfl rfl ?_; refine Tr.seq (Tr.rg ?_); refine mw rfl rfl rfl ?_; refine TrL.fin (End.nxt (Tr.seq (Tr.rg ?_))); refine tO (ok_moveAt rfl uu) rfl rfl ?_; refine mv rfl rfl rfl ?_
        first | refine tO (ok_idxEN rfl uu rfl uu (fun _ => by omega)) rfl rfl ?_ | refine tO (ok_idxE rfl uu rfl uu (fun _ => by omega)) rfl rfl ?_
        refine tO (ok_ldE rfl uu rfl rfl rfl) rfl rfl ?_; refine tO (ok_lss rfl uu rfl uu) rfl rfl ?_; refine TrL.fin (End.nxt ?_); refine Tr.cnd rfl ?_ ?_
        · intro h9
          replace h9 := of_decide_eq_true h9
          refine Tr.seq (Tr.rg ?_); refine tO (ok_moveAt rfl uu) rfl rfl ?_; refine mv rfl rfl rfl ?_
          first | refine tO (ok_idxEN rfl uu rfl uu (fun _ => by omega)) rfl rfl ?_ | refine tO (ok_idxE rfl uu rfl uu (fun _ => by omega)) rfl rfl ?_
          refine tO (ok_ldE rfl uu rfl rfl rfl) rfl rfl ?_; refine tO (ok_add rfl uu rfl uu (fun _ => by omega)) rfl rfl ?_
          first | refine tO (ok_idxEN rfl uu rfl uu (fun _ => by omega)) rfl rfl ?_ | refine tO (ok_idxE rfl uu rfl uu (fun _ => by omega)) rfl rfl ?_
          refine TrL.stE rfl rfl rfl rfl rfl ?_; refine TrL.fin (End.nxt (Tr.rg ?_)); refine mw rfl rfl rfl ?_; refine TrL.fin (End.blk (End.nxt (Tr.rg ?_))); refine tO (ok_add rfl uu rfl uu (fun _ => by omega)) rfl rfl ?_; refine mv rfl rfl rfl ?_; refine TrL.fin ?_
          exact End.lp (k + 1) (by first | rfl | omega | simp <;> omega | assumption) (by omega) (Ent.mk (.i rfl (by first | rfl | omega | simp <;> omega | assumption) <| .i rfl (sb_t (by omega) h9).2 <| .k rfl rfl <| .k rfl rfl <| .k rfl rfl <| .nil) (.a (sb_t (by omega) h9).1 (by first | rfl | omega | simp <;> omega | assumption) <| .nil) rfl)
        · intro h9
          replace h9 := Int.not_lt.1 (of_decide_eq_false h9)
          refine Tr.skip (End.blk (End.nxt (Tr.rg ?_))); refine tO (ok_add rfl uu rfl uu (fun _ => by omega)) rfl rfl ?_; refine mv rfl rfl rfl ?_; refine TrL.fin ?_
          exact End.lp (k + 1) (by first | rfl | omega | simp <;> omega | assumption) (by omega) (Ent.mk (.i rfl (by first | rfl | omega | simp <;> omega | assumption) <| .i rfl (sb_f (by omega) h9).2 <| .k rfl rfl <| .k rfl rfl <| .k rfl rfl <| .nil) (.a (sb_f (by omega) h9).1 (by first | rfl | omega | simp <;> omega | assumption) <| .nil) rfl)
    · intro h3
      replace h3 := Int.not_lt.1 (of_decide_eq_false h3)
      refine Tr.exit (Exs.thn (Exs.thn (Exs.here ?_)))
      exact End.cut (k) (by omega) (Ent.mk (.i rfl (by first | rfl | omega | simp <;> omega | assumption) <| .i rfl (by first | rfl | omega | simp <;> omega | assumption) <| .k rfl rfl <| .k rfl rfl <| .k rfl rfl <| .nil) (.a (by first | rfl | omega | simp <;> omega | assumption) (by first | rfl | omega | simp <;> omega | assumption) <| .nil) rfl)
  · rintro _ rfl
    refine End.norm (S' := [⟨9, true, _, _⟩, ⟨5, true, _, _⟩, ⟨0, true, _, _⟩, ⟨1, true, _, _⟩, ⟨8, true, _, _⟩]) (M' := [⟨0, _, _⟩]) rfl rfl ?_; refine End.nxt (Tr.seq (Tr.rg ?_)); refine tO (ok_moveAt rfl uu) rfl rfl ?_; refine tO (ok_lendV (n := 1) (fun ad cap => ct_trimmedV (sbL a b a.length) ad cap) rfl uu (fun _ => ⟨by omega, by simp only [lenMax]; omega, by have := trim_len (xs := sbL a b a.length); rw [sbL_len] at this; exact this⟩)) rfl rfl ?_; refine mw rfl rfl rfl ?_; refine TrL.fin (End.nxt (Tr.ret ?_)); exact Rts.mutR (s := 0) (fn := Tryz.f155) rfl rfl rfl (fun _ _ h => h) (fun _ _ hm h => osq_back hm h)

set_option maxRecDepth 100000 in
set_option maxHeartbeats 1000000 in
theorem ct_wplus (a b : Int) (ha : dl a ≤ 1000000) (hb : dl b ≤ 1000000) : Ct Tryz.prog 111 [kRd eW (wh a), kRd eW (wh b)] (kRd eW (wh (a + b))) := by
  have hal : (digN a.natAbs).length = dl a := rfl
  have hbl : (digN b.natAbs).length = dl b := rfl
  refine Ct.mk Tryz.func111 rfl Tryz.ntmps111 rfl (fun w J => ?_); refine Tr.seq (Tr.rg ?_); refine TrL.new (ok_box 2 rfl uu rfl) rfl rfl rfl rfl ?_; refine TrL.new (ok_box 3 rfl uu rfl) rfl rfl rfl rfl ?_; refine TrL.new (ok_alloc 4) rfl rfl rfl rfl ?_; refine TrL.fin (End.nxt (Tr.seq (Tr.seq (Tr.rg ?_)))); refine tO (ok_fldO rfl uu) rfl rfl ?_; refine tO (ok_ldB rfl uu rfl) rfl rfl ?_; refine tO (ok_fldO rfl uu) rfl rfl ?_; refine tO (ok_ldB rfl uu rfl) rfl rfl ?_; refine tO (ok_eqlB rfl uu rfl uu) rfl rfl ?_; refine TrL.fin (End.nxt ?_); refine Tr.cnd rfl ?_ ?_
  · intro h1
    have hs := of_decide_eq_true h1
    refine Tr.seq ?_; refine Tr.draw 5 mixed (by kernel_rfl) ?_; refine rO (ok_fldO rfl uu) rfl rfl ?_; refine rO (ok_ldB rfl uu rfl) rfl rfl ?_; refine rO (ok_fldO rfl uu) rfl rfl ?_; refine rO (ok_ldB rfl uu rfl) rfl rfl ?_; refine rO (ok_assign rfl uu) rfl rfl ?_; refine RunD.z ?_; refine mw rfl rfl rfl ?_; refine TrL.fin (End.nxt ?_); refine Tr.meet2 (σ := List Int × List Int) [⟨2, true, _, _⟩, ⟨4, true, _, _⟩] [⟨2, _, _⟩, ⟨4, _, _⟩] (.k rfl rfl <| .k rfl rfl <| .nil) (.k rfl <| .k rfl <| .nil) (fun (X, Y) => [⟨5, true, [], kRd (eL eI) X⟩, ⟨6, true, [], kRd (eL eI) Y⟩]) (fun (X, Y) => []) (fun (X, Y) => AdR a b X Y) ?_ ?_
    · skip
      refine Tr.seq (Tr.rg ?_); refine mv rfl rfl rfl ?_; refine tO (ok_lenJ rfl uu) rfl rfl ?_; refine mv rfl rfl rfl ?_; refine tO (ok_lenJ rfl uu) rfl rfl ?_; refine tO (ok_lss rfl uu rfl uu) rfl rfl ?_; refine TrL.fin (End.nxt ?_); refine Tr.cnd rfl ?_ ?_
      · intro h3
        replace h3 := of_decide_eq_true h3
        refine Tr.rg ?_; refine mv rfl rfl rfl ?_; refine mv rfl rfl rfl ?_; refine mw rfl rfl rfl ?_; refine mw rfl rfl rfl ?_; refine TrL.fin ?_; exact End.cut (((digN b.natAbs), (digN a.natAbs))) (AdR.r (by omega) (by omega)) (Ent.mk (.r rfl rfl <| .r rfl rfl <| .k rfl rfl <| .k rfl rfl <| .nil) (.k rfl <| .k rfl <| .nil) rfl)
      · intro h3
        replace h3 := Int.not_lt.1 (of_decide_eq_false h3)
        refine Tr.skip ?_; exact End.cut (((digN a.natAbs), (digN b.natAbs))) (AdR.l (by omega) (by omega)) (Ent.mk (.r rfl rfl <| .r rfl rfl <| .k rfl rfl <| .k rfl rfl <| .nil) (.k rfl <| .k rfl <| .nil) rfl)
    · rintro ⟨X, Y⟩ hA
      refine Tr.norm (S' := [⟨5, true, _, _⟩, ⟨6, true, _, _⟩, ⟨2, true, _, _⟩, ⟨4, true, _, _⟩]) (M' := [⟨2, _, _⟩, ⟨4, _, _⟩]) rfl rfl ?_
      have hXl := hA.hi
      have hYl := hA.le
      refine Tr.seq (Tr.rg ?_); refine mv rfl rfl rfl ?_; refine tO (ok_lenJ rfl uu) rfl rfl ?_; refine tO (ok_add rfl uu rfl uu (fun _ => by omega)) rfl rfl ?_; refine TrL.new (ok_make0 eI 30 rfl uu rfl uu rfl (fun _ => by omega)) rfl rfl rfl rfl ?_; refine mw rfl rfl rfl ?_; refine TrL.fin (End.nxt (Tr.seq (Tr.rg ?_))); refine mw rfl rfl rfl ?_; refine TrL.fin (End.nxt (Tr.seq (Tr.seq (Tr.rg ?_)))); refine mv rfl rfl rfl ?_; refine tO (ok_lenJ rfl uu) rfl rfl ?_; refine mv rfl rfl rfl ?_; refine TrL.fin (End.nxt ?_)
      refine Tr.for1 (σ := Nat) [⟨2, true, _, _⟩, ⟨4, true, _, _⟩, ⟨6, true, _, _⟩, ⟨31, true, _, _⟩, ⟨32, true, _, _⟩] [⟨2, _, _⟩, ⟨4, _, _⟩] (fun k => [⟨33, true, [], kI (k : Int)⟩, ⟨7, true, [30], kOsl 30 k⟩, ⟨8, true, [], kI (adS X Y k).2⟩]) (fun k => [⟨30, [], cArr false 3 eI (adS X Y k).1 k⟩]) (fun k => k ≤ X.length) (fun k => k = X.length) (fun k => X.length - k) (0) (Nat.zero_le _) (Ent.mk (.i rfl (by first | rfl | omega | simp <;> omega | assumption) <| .o rfl (by first | rfl | omega | simp <;> omega | assumption) rfl <| .i rfl (by first | rfl | omega | simp <;> omega | assumption) <| .k rfl rfl <| .k rfl rfl <| .k rfl rfl <| .k rfl rfl <| .k rfl rfl <| .nil) (.a (by first | rfl | omega | simp <;> omega | assumption) (by first | rfl | omega | simp <;> omega | assumption) <| .k rfl <| .k rfl <| .nil) rfl) ?_ ?_
      · intro k hR0
        refine Tr.norm (S' := [⟨33, true, _, _⟩, ⟨7, true, _, _⟩, ⟨8, true, _, _⟩, ⟨2, true, _, _⟩, ⟨4, true, _, _⟩, ⟨6, true, _, _⟩, ⟨31, true, _, _⟩, ⟨32, true, _, _⟩]) (M' := [⟨30, _, _⟩, ⟨2, _, _⟩, ⟨4, _, _⟩]) rfl rfl ?_
        have hXd := fun (h : k < X.length) => hA.nx.dg.at (i := k) h
        have hYx := hA.ny.dg.x k
        have hcc := fun (h : k ≤ X.length) => adS_c hA.nx.dg hA.ny.dg (i := k) h
        have hYi := fun (h : k < Y.length) => xAt_in h
        have hYo := fun (h : ¬ k < Y.length) => xAt_out h
        refine Tr.seq (Tr.rg ?_); refine tO (ok_lss rfl uu rfl uu) rfl rfl ?_; refine TrL.fin (End.nxt (Tr.seq ?_)); refine Tr.cnd rfl ?_ ?_
        · intro h8
          replace h8 := of_decide_eq_true h8
          refine Tr.skip (End.nxt (Tr.seq (Tr.blk (Tr.seq (Tr.rg ?_))))); refine mv rfl rfl rfl ?_
          first | refine tO (ok_idxN rfl uu rfl uu rfl (fun _ => by omega)) rfl rfl ?_ | refine tO (ok_idxP rfl uu rfl uu rfl (fun _ => by omega)) rfl rfl ?_
          refine tO (ok_ldP rfl uu rfl) rfl rfl ?_; refine mw rfl rfl rfl ?_; refine mw rfl rfl rfl ?_; refine TrL.fin (End.nxt (Tr.seq (Tr.rg ?_))); refine mv rfl rfl rfl ?_; refine mv rfl rfl rfl ?_; refine tO (ok_add rfl uu rfl uu (fun _ => by omega)) rfl rfl ?_; refine mw rfl rfl rfl ?_; refine TrL.fin (End.nxt ?_); refine Tr.meet2 (σ := Unit) [⟨2, true, _, _⟩, ⟨4, true, _, _⟩, ⟨6, true, _, _⟩, ⟨7, true, _, _⟩, ⟨31, true, _, _⟩, ⟨32, true, _, _⟩, ⟨33, true, _, _⟩] [⟨2, _, _⟩, ⟨4, _, _⟩, ⟨30, _, _⟩] (.k rfl rfl <| .k rfl rfl <| .k rfl rfl <| .k rfl rfl <| .k rfl rfl <| .k rfl rfl <| .k rfl rfl <| .nil) (.k rfl <| .k rfl <| .k rfl <| .nil) (fun _ => [⟨10, true, [], kI (nth X k + (adS X Y k).2 + xAt Y k)⟩]) (fun _ => []) (fun _ => True) ?_ ?_
          · skip
            refine Tr.seq (Tr.rg ?_); refine mv rfl rfl rfl ?_; refine mv rfl rfl rfl ?_; refine tO (ok_lenJ rfl uu) rfl rfl ?_; refine tO (ok_lss rfl uu rfl uu) rfl rfl ?_; refine TrL.fin (End.nxt ?_); refine Tr.cnd rfl ?_ ?_
            · intro h11
              replace h11 := of_decide_eq_true h11
              refine Tr.rg ?_; refine mv rfl rfl rfl ?_; refine mv rfl rfl rfl ?_; refine mv rfl rfl rfl ?_
              first | refine tO (ok_idxN rfl uu rfl uu rfl (fun _ => by omega)) rfl rfl ?_ | refine tO (ok_idxP rfl uu rfl uu rfl (fun _ => by omega)) rfl rfl ?_
              refine tO (ok_ldP rfl uu rfl) rfl rfl ?_; refine tO (ok_add rfl uu rfl uu (fun _ => by omega)) rfl rfl ?_; refine mw rfl rfl rfl ?_; refine TrL.fin ?_
              exact End.cut (()) (by first | rfl | omega | simp <;> omega | assumption) (Ent.mk (.i rfl (by rw [xAt_in (by omega)]) <| .k rfl rfl <| .k rfl rfl <| .k rfl rfl <| .k rfl rfl <| .k rfl rfl <| .k rfl rfl <| .k rfl rfl <| .nil) (.k rfl <| .k rfl <| .k rfl <| .nil) rfl)
            · intro h11
              replace h11 := Int.not_lt.1 (of_decide_eq_false h11)
              refine Tr.skip ?_
              exact End.cut (()) (by first | rfl | omega | simp <;> omega | assumption) (Ent.mk (.i rfl (by rw [xAt_out (by omega), Int.add_zero]) <| .k rfl rfl <| .k rfl rfl <| .k rfl rfl <| .k rfl rfl <| .k rfl rfl <| .k rfl rfl <| .k rfl rfl <| .nil) (.k rfl <| .k rfl <| .k rfl <| .nil) rfl)
          · intro _ hM
            refine Tr.norm (S' := [⟨10, true, _, _⟩, ⟨2, true, _, _⟩, ⟨4, true, _, _⟩, ⟨6, true, _, _⟩, ⟨7, true, _, _⟩, ⟨31, true, _, _⟩, ⟨32, true, _, _⟩, ⟨33, true, _, _⟩]) (M' := [⟨2, _, _⟩, ⟨4, _, _⟩, ⟨30, _, _⟩]) rfl rfl ?_; refine Tr.seq (Tr.rg ?_)
            obtain ⟨hq1, hq2, hq3⟩ := td8 (nth X k + (adS X Y k).2 + xAt Y k)
            refine mv rfl rfl rfl ?_; refine tO (ok_quo rfl uu rfl uu (fun _ => by omega)) rfl rfl ?_; refine mw rfl rfl rfl ?_; refine TrL.fin (End.nxt (Tr.rg ?_)); refine mv rfl rfl rfl ?_; refine mv rfl rfl rfl ?_; refine tO (ok_rem rfl uu rfl uu (fun _ => by omega)) rfl rfl ?_; refine TrL.new (ok_bsl eI 56 (fun hp => .cons rfl <| .nil) rfl rfl rfl rfl) rfl rfl rfl rfl ?_
            refine TrL.app rfl rfl rfl rfl rfl rfl rfl rfl (by first | omega | (simp only [List.length_cons, List.length_nil]; omega)) (by first | omega | (simp only [List.length_cons, List.length_nil]; omega)) ?_
            refine TrL.norm (S' := [⟨_, _, _, _⟩, ⟨_, _, _, _⟩, ⟨_, _, _, _⟩, ⟨_, _, _, _⟩, ⟨_, _, _, _⟩, ⟨_, _, _, _⟩, ⟨_, _, _, _⟩, ⟨_, _, _, _⟩, ⟨_, _, _, _⟩, ⟨_, _, _, _⟩, ⟨_, _, _, _⟩, ⟨_, _, _, _⟩, ⟨_, _, _, _⟩, ⟨_, _, _, _⟩, ⟨_, _, _, _⟩, ⟨_, _, _, _⟩]) rfl rfl ?_; refine mw rfl rfl rfl ?_; refine TrL.fin (End.blk (End.nxt (Tr.rg ?_))); refine tO (ok_add rfl uu rfl uu (fun _ => by omega)) rfl rfl ?_; refine mv rfl rfl rfl ?_; refine TrL.fin ?_
            exact End.lp (k + 1) (by first | rfl | omega | simp <;> omega | assumption) (by omega) (Ent.mk (.i rfl (by first | rfl | omega | simp <;> omega | assumption) <| .o rfl (by first | rfl | omega | simp <;> omega | assumption) rfl <| .i rfl (by rw [Int.tdiv_eq_ediv_of_nonneg (by omega)]; rfl) <| .k rfl rfl <| .k rfl rfl <| .k rfl rfl <| .k rfl rfl <| .k rfl rfl <| .nil) (.a (by rw [Int.tmod_eq_emod_of_nonneg (by omega)]; rfl) (by first | rfl | omega | simp <;> omega | assumption) <| .k rfl <| .k rfl <| .nil) rfl)
        · intro h8
          replace h8 := Int.not_lt.1 (of_decide_eq_false h8)
          refine Tr.exit (Exs.thn (Exs.thn (Exs.here ?_)))
          exact End.cut (k) (by omega) (Ent.mk (.i rfl (by first | rfl | omega | simp <;> omega | assumption) <| .o rfl (by first | rfl | omega | simp <;> omega | assumption) rfl <| .i rfl (by first | rfl | omega | simp <;> omega | assumption) <| .k rfl rfl <| .k rfl rfl <| .k rfl rfl <| .k rfl rfl <| .k rfl rfl <| .nil) (.a (by first | rfl | omega | simp <;> omega | assumption) (by first | rfl | omega | simp <;> omega | assumption) <| .k rfl <| .k rfl <| .nil) rfl)
      · rintro _ rfl
        refine End.norm (S' := [⟨33, true, _, _⟩, ⟨7, true, _, _⟩, ⟨8, true, _, _⟩, ⟨2, true, _, _⟩, ⟨4, true, _, _⟩, ⟨6, true, _, _⟩, ⟨31, true, _, _⟩, ⟨32, true, _, _⟩]) (M' := [⟨30, _, _⟩, ⟨2, _, _⟩, ⟨4, _, _⟩]) rfl rfl ?_
        have hcc := adS_c hA.nx.dg hA.ny.dg (Nat.le_refl X.length)
        refine End.nxt (Tr.seq (Tr.seq (Tr.rg ?_))); refine mv rfl rfl rfl ?_; refine tO (ok_gtr rfl uu rfl uu) rfl rfl ?_; refine TrL.fin (End.nxt ?_); refine Tr.cnd rfl ?_ ?_
        · intro h16
          replace h16 := of_decide_eq_true h16
          refine Tr.rg ?_; refine mv rfl rfl rfl ?_; refine mv rfl rfl rfl ?_; refine TrL.new (ok_bsl eI 63 (fun hp => .cons rfl <| .nil) rfl rfl rfl rfl) rfl rfl rfl rfl ?_
          refine TrL.app rfl rfl rfl rfl rfl rfl rfl rfl (by first | omega | (simp only [List.length_cons, List.length_nil]; omega)) (by first | omega | (simp only [List.length_cons, List.length_nil]; omega)) ?_
          refine TrL.norm (S' := [⟨_, _, _, _⟩, ⟨_, _, _, _⟩, ⟨_, _, _, _⟩, ⟨_, _, _, _⟩, ⟨_, _, _, _⟩, ⟨_, _, _, _⟩, ⟨_, _, _, _⟩, ⟨_, _, _, _⟩, ⟨_, _, _, _⟩, ⟨_, _, _, _⟩, ⟨_, _, _, _⟩, ⟨_, _, _, _⟩, ⟨_, _, _, _⟩, ⟨_, _, _, _⟩]) rfl rfl ?_; refine mw rfl rfl rfl ?_; refine TrL.fin (End.nxt (Tr.seq (Tr.rg ?_))); refine tO (ok_fldO rfl uu) rfl rfl ?_; refine tO (ok_ldB rfl uu rfl) rfl rfl ?_; refine mv rfl rfl rfl ?_; refine tO (ok_build (fun hp => .cons rfl rfl rfl <| .cons rfl rfl rfl <| .nil)) rfl rfl ?_; refine TrL.stB rfl rfl rfl rfl ?_; refine TrL.fin (End.nxt ?_)
          refine Tr.frzC 30 4 (by simp only [lenMax]; first | omega | (rw [List.length_singleton]; omega)) rfl rfl ?_
          refine Tr.ret (Rts.thn ?_); exact Rts.resC1 (fn := Tryz.f111) rfl rfl (aggRd rfl (hA.one hs h16))
        · intro h16
          replace h16 := Int.not_lt.1 (of_decide_eq_false h16)
          refine Tr.skip (End.nxt (Tr.seq (Tr.rg ?_))); refine tO (ok_fldO rfl uu) rfl rfl ?_; refine tO (ok_ldB rfl uu rfl) rfl rfl ?_; refine mv rfl rfl rfl ?_; refine tO (ok_build (fun hp => .cons rfl rfl rfl <| .cons rfl rfl rfl <| .nil)) rfl rfl ?_; refine TrL.stB rfl rfl rfl rfl ?_; refine TrL.fin (End.nxt ?_)
          refine Tr.frzC 30 4 (by simp only [lenMax]; first | omega | (rw [List.length_singleton]; omega)) rfl rfl ?_
          refine Tr.ret (Rts.thn ?_); exact Rts.resC1 (fn := Tryz.f111) rfl rfl (aggRd rfl (hA.zero hs (by omega)))
  · intro h1
    have hs := of_decide_eq_false h1
    refine Tr.skip (End.nxt (Tr.seq (Tr.seq (Tr.rg ?_)))); refine tO (ok_fldO rfl uu) rfl rfl ?_; refine tO (ok_ldB rfl uu rfl) rfl rfl ?_; refine tO (ok_fldO rfl uu) rfl rfl ?_; refine tO (ok_ldB rfl uu rfl) rfl rfl ?_; refine tO (ok_call (fun hp => ct_sizes a.natAbs b.natAbs (by omega) (by omega)) (.a rfl uu <| .a rfl uu <| .nil)) rfl rfl ?_; refine TrL.fin (End.nxt (Tr.blk (Tr.seq (Tr.rg ?_)))); refine tO (ok_eql rfl uu rfl uu) rfl rfl ?_; refine mw rfl rfl rfl ?_; refine TrL.fin (End.nxt ?_); refine Tr.cnd rfl ?_ ?_
    · intro h20
      try simp only [decide_eq_true_eq] at h20
      have hc0 : cmpZ (a.natAbs : Nat) (b.natAbs : Nat) = 0 := by omega
      refine Tr.seq (Tr.rg ?_); refine tO (ok_build (fun hp => .nil)) rfl rfl ?_; refine TrL.stB rfl rfl rfl rfl ?_; refine TrL.fin (End.nxt (Tr.ret (Rts.out (Rts.thn ?_)))); exact Rts.resC1 (fn := Tryz.f111) rfl rfl (aggRd rfl (wh_null hs hc0))
    · intro h20
      try simp only [decide_eq_false_iff_not] at h20
      refine Tr.seq (Tr.rg ?_); refine tO (ok_eql rfl uu rfl uu) rfl rfl ?_; refine mw rfl rfl rfl ?_; refine TrL.fin (End.nxt ?_); refine Tr.cnd rfl ?_ ?_
      · intro h22
        try simp only [decide_eq_true_eq] at h22
        have hlt := cmpZ_1 h22
        have hp1 := dl_pos (z := a)
        have hlz : a ≠ 0 := by omega
        have hp2 := hp1.2 hlz
        refine Tr.seq ?_; refine Tr.ent (S' := [⟨0, true, _, _⟩, ⟨1, true, _, _⟩, ⟨2, true, _, _⟩, ⟨3, true, _, _⟩, ⟨4, true, _, _⟩, ⟨11, true, _, _⟩, ⟨12, true, _, _⟩, ⟨13, true, _, _⟩, ⟨14, true, _, _⟩, ⟨15, true, _, _⟩, ⟨69, true, _, _⟩, ⟨70, true, _, _⟩, ⟨71, true, _, _⟩, ⟨72, true, _, _⟩, ⟨73, true, _, _⟩, ⟨75, true, _, _⟩, ⟨74, true, _, _⟩, ⟨78, true, _, _⟩, ⟨77, true, _, _⟩]) (M' := [⟨2, _, _⟩, ⟨3, _, _⟩, ⟨4, _, _⟩]) (Ent.mk (.k rfl rfl <| .k rfl rfl <| .k rfl rfl <| .k rfl rfl <| .k rfl rfl <| .k rfl rfl <| .k rfl rfl <| .k rfl rfl <| .k rfl rfl <| .k rfl rfl <| .k rfl rfl <| .k rfl rfl <| .k rfl rfl <| .k rfl rfl <| .k rfl rfl <| .k rfl rfl <| .k rfl rfl <| .k rfl rfl <| .k rfl rfl <| .nil) (.k rfl <| .k rfl <| .k rfl <| .nil) rfl) ?_
        refine Tr.drawQ [⟨2, _, _⟩, ⟨3, _, _⟩] [⟨4, _, _⟩] rfl mixed #[false, false, false, false, false, false, false, false, false, false] rfl fun f => ?_
        simp only [pinM, List.map_cons, List.map_nil, List.cons_append, List.nil_append]
        refine TrA.take 0 #[true, false, false, false, false, false, false, false, false, false] (by kernel_rfl) (by kernel_rfl) (by kernel_rfl) rfl rfl (y_fldO rfl) rfl rfl ?_; refine TrA.take 1 #[true, true, false, false, false, false, false, false, false, false] (by kernel_rfl) (by kernel_rfl) (by kernel_rfl) rfl rfl (y_ldP rfl rfl) rfl rfl ?_; refine TrA.take 2 #[true, true, true, false, false, false, false, false, false, false] (by kernel_rfl) (by kernel_rfl) (by kernel_rfl) rfl rfl (y_fldO rfl) rfl rfl ?_; refine TrA.take 3 #[true, true, true, true, false, false, false, false, false, false] (by kernel_rfl) (by kernel_rfl) (by kernel_rfl) rfl rfl (y_ldP rfl rfl) rfl rfl ?_
        refine TrA.take 5 #[true, true, true, true, false, true, false, false, false, false] (by kernel_rfl) (by kernel_rfl) (by kernel_rfl) rfl rfl (y_fldO rfl) rfl rfl ?_; refine TrA.take 6 #[true, true, true, true, false, true, true, false, false, false] (by kernel_rfl) (by kernel_rfl) (by kernel_rfl) rfl rfl (y_ldP rfl rfl) rfl rfl ?_; refine TrA.one 4 (by kernel_rfl) rfl ?_; refine TrL.new (ok_callN 83 (fun hp => ct_cloneN _ (by omega) (by omega)) (.a rfl uu <| .nil)) rfl rfl rfl rfl ?_; refine TrA.k #[true, true, true, true, true, true, true, false, false, false] rfl (pinS_ofA (by intro e he; simp only [pinM, List.map_cons, List.map_nil, List.mem_cons, List.not_mem_nil, or_false] at he; rcases he with rfl | rfl <;> simp)) ?_
        refine TrA.one 7 (by kernel_rfl) rfl ?_; refine TrL.mutR (ct_fless _ _ (digN_dg _) (digN_dg _) (digN_len_le (by omega)) (by omega) (by omega)) rfl (by omega) (.a rfl uu <| .nil) rfl (fun _ _ _ _ h => h) (fun h => h) rfl ?_; refine TrL.norm (S' := [⟨_, _, _, _⟩, ⟨_, _, _, _⟩, ⟨_, _, _, _⟩, ⟨_, _, _, _⟩, ⟨_, _, _, _⟩, ⟨_, _, _, _⟩, ⟨_, _, _, _⟩, ⟨_, _, _, _⟩, ⟨_, _, _, _⟩, ⟨_, _, _, _⟩, ⟨_, _, _, _⟩, ⟨_, _, _, _⟩, ⟨_, _, _, _⟩, ⟨_, _, _, _⟩, ⟨_, _, _, _⟩, ⟨_, _, _, _⟩, ⟨_, _, _, _⟩, ⟨_, _, _, _⟩, ⟨_, _, _, _⟩, ⟨_, _, _, _⟩, ⟨_, _, _, _⟩, ⟨_, _, _, _⟩, ⟨_, _, _, _⟩, ⟨_, _, _, _⟩, ⟨_, _, _, _⟩, ⟨_, _, _, _⟩, ⟨_, _, _, _⟩]) rfl rfl ?_
        refine TrL.frzQ 83 [86] ⟨rfl, trivial⟩ (⟨by have := trim_len (xs := sbL (digN a.natAbs) (digN b.natAbs) (digN a.natAbs).length); rw [sbL_len] at this; exact this, by simp only [lenMax]; omega⟩) rfl ?_; refine TrL.norm (S' := [⟨_, _, _, _⟩, ⟨_, _, _, _⟩, ⟨_, _, _, _⟩, ⟨_, _, _, _⟩, ⟨_, _, _, _⟩, ⟨_, _, _, _⟩, ⟨_, _, _, _⟩, ⟨_, _, _, _⟩, ⟨_, _, _, _⟩, ⟨_, _, _, _⟩, ⟨_, _, _, _⟩, ⟨_, _, _, _⟩, ⟨_, _, _, _⟩, ⟨_, _, _, _⟩, ⟨_, _, _, _⟩, ⟨_, _, _, _⟩, ⟨_, _, _, _⟩, ⟨_, _, _, _⟩, ⟨_, _, _, _⟩, ⟨_, _, _, _⟩, ⟨_, _, _, _⟩, ⟨_, _, _, _⟩, ⟨_, _, _, _⟩, ⟨_, _, _, _⟩, ⟨_, _, _, _⟩, ⟨_, _, _, _⟩, ⟨_, _, _, _⟩, ⟨_, _, _, _⟩]) rfl rfl ?_
        refine TrA.k #[true, true, true, true, true, true, true, true, false, false] rfl (pinS_ofA (by intro e he; simp only [pinM, List.map_cons, List.map_nil, List.mem_cons, List.not_mem_nil, or_false] at he; rcases he with rfl | rfl <;> simp)) ?_; refine TrA.one 8 (by kernel_rfl) rfl ?_; refine tO (ok_build (fun hp => .cons rfl rfl rfl <| .cons rfl rfl rfl <| .nil)) rfl rfl ?_; refine TrA.k #[true, true, true, true, true, true, true, true, true, false] rfl (pinS_ofA (by intro e he; simp only [pinM, List.map_cons, List.map_nil, List.mem_cons, List.not_mem_nil, or_false] at he; rcases he with rfl | rfl <;> simp)) ?_
        refine TrA.one 9 (by kernel_rfl) rfl ?_; refine TrL.stB rfl rfl rfl rfl ?_; refine TrA.k #[true, true, true, true, true, true, true, true, true, true] rfl (pinS_ofA (by intro e he; simp only [pinM, List.map_cons, List.map_nil, List.mem_cons, List.not_mem_nil, or_false] at he; rcases he with rfl | rfl <;> simp)) ?_; refine TrA.done (by kernel_rfl) ?_; refine End.nxt (Tr.ret (Rts.out (Rts.thn ?_))); exact Rts.resC1 (fn := Tryz.f111) rfl rfl (aggRd rfl (wh_left hs (by omega) (sub_dig (by omega))))
      · intro h22
        try simp only [decide_eq_false_iff_not] at h22
        have hlt := cmpZ_m h20 h22
        have hp1 := dl_pos (z := b)
        have hlz : b ≠ 0 := by omega
        have hp2 := hp1.2 hlz
        refine Tr.skip (End.blk (End.nxt (Tr.seq ?_))); refine Tr.ent (S' := [⟨0, true, _, _⟩, ⟨1, true, _, _⟩, ⟨2, true, _, _⟩, ⟨3, true, _, _⟩, ⟨4, true, _, _⟩, ⟨11, true, _, _⟩, ⟨12, true, _, _⟩, ⟨13, true, _, _⟩, ⟨14, true, _, _⟩, ⟨15, true, _, _⟩, ⟨69, true, _, _⟩, ⟨70, true, _, _⟩, ⟨71, true, _, _⟩, ⟨72, true, _, _⟩, ⟨73, true, _, _⟩, ⟨75, true, _, _⟩, ⟨74, true, _, _⟩, ⟨78, true, _, _⟩, ⟨77, true, _, _⟩]) (M' := [⟨2, _, _⟩, ⟨3, _, _⟩, ⟨4, _, _⟩]) (Ent.mk (.k rfl rfl <| .k rfl rfl <| .k rfl rfl <| .k rfl rfl <| .k rfl rfl <| .k rfl rfl <| .k rfl rfl <| .k rfl rfl <| .k rfl rfl <| .k rfl rfl <| .k rfl rfl <| .k rfl rfl <| .k rfl rfl <| .k rfl rfl <| .k rfl rfl <| .k rfl rfl <| .k rfl rfl <| .k rfl rfl <| .k rfl rfl <| .nil) (.k rfl <| .k rfl <| .k rfl <| .nil) rfl) ?_
        refine Tr.drawQ [⟨2, _, _⟩, ⟨3, _, _⟩] [⟨4, _, _⟩] rfl mixed #[false, false, false, false, false, false, false, false, false, false] rfl fun f => ?_
        simp only [pinM, List.map_cons, List.map_nil, List.cons_append, List.nil_append]
        refine TrA.take 0 #[true, false, false, false, false, false, false, false, false, false] (by kernel_rfl) (by kernel_rfl) (by kernel_rfl) rfl rfl (y_fldO rfl) rfl rfl ?_; refine TrA.take 1 #[true, true, false, false, false, false, false, false, false, false] (by kernel_rfl) (by kernel_rfl) (by kernel_rfl) rfl rfl (y_ldP rfl rfl) rfl rfl ?_; refine TrA.take 2 #[true, true, true, false, false, false, false, false, false, false] (by kernel_rfl) (by kernel_rfl) (by kernel_rfl) rfl rfl (y_fldO rfl) rfl rfl ?_; refine TrA.take 3 #[true, true, true, true, false, false, false, false, false, false] (by kernel_rfl) (by kernel_rfl) (by kernel_rfl) rfl rfl (y_ldP rfl rfl) rfl rfl ?_
        refine TrA.take 5 #[true, true, true, true, false, true, false, false, false, false] (by kernel_rfl) (by kernel_rfl) (by kernel_rfl) rfl rfl (y_fldO rfl) rfl rfl ?_; refine TrA.take 6 #[true, true, true, true, false, true, true, false, false, false] (by kernel_rfl) (by kernel_rfl) (by kernel_rfl) rfl rfl (y_ldP rfl rfl) rfl rfl ?_; refine TrA.one 4 (by kernel_rfl) rfl ?_; refine TrL.new (ok_callN 92 (fun hp => ct_cloneN _ (by omega) (by omega)) (.a rfl uu <| .nil)) rfl rfl rfl rfl ?_; refine TrA.k #[true, true, true, true, true, true, true, false, false, false] rfl (pinS_ofA (by intro e he; simp only [pinM, List.map_cons, List.map_nil, List.mem_cons, List.not_mem_nil, or_false] at he; rcases he with rfl | rfl <;> simp)) ?_
        refine TrA.one 7 (by kernel_rfl) rfl ?_; refine TrL.mutR (ct_fless _ _ (digN_dg _) (digN_dg _) (digN_len_le (by omega)) (by omega) (by omega)) rfl (by omega) (.a rfl uu <| .nil) rfl (fun _ _ _ _ h => h) (fun h => h) rfl ?_; refine TrL.norm (S' := [⟨_, _, _, _⟩, ⟨_, _, _, _⟩, ⟨_, _, _, _⟩, ⟨_, _, _, _⟩, ⟨_, _, _, _⟩, ⟨_, _, _, _⟩, ⟨_, _, _, _⟩, ⟨_, _, _, _⟩, ⟨_, _, _, _⟩, ⟨_, _, _, _⟩, ⟨_, _, _, _⟩, ⟨_, _, _, _⟩, ⟨_, _, _, _⟩, ⟨_, _, _, _⟩, ⟨_, _, _, _⟩, ⟨_, _, _, _⟩, ⟨_, _, _, _⟩, ⟨_, _, _, _⟩, ⟨_, _, _, _⟩, ⟨_, _, _, _⟩, ⟨_, _, _, _⟩, ⟨_, _, _, _⟩, ⟨_, _, _, _⟩, ⟨_, _, _, _⟩, ⟨_, _, _, _⟩, ⟨_, _, _, _⟩, ⟨_, _, _, _⟩]) rfl rfl ?_
        refine TrL.frzQ 92 [95] ⟨rfl, trivial⟩ (⟨by have := trim_len (xs := sbL (digN b.natAbs) (digN a.natAbs) (digN b.natAbs).length); rw [sbL_len] at this; exact this, by simp only [lenMax]; omega⟩) rfl ?_; refine TrL.norm (S' := [⟨_, _, _, _⟩, ⟨_, _, _, _⟩, ⟨_, _, _, _⟩, ⟨_, _, _, _⟩, ⟨_, _, _, _⟩, ⟨_, _, _, _⟩, ⟨_, _, _, _⟩, ⟨_, _, _, _⟩, ⟨_, _, _, _⟩, ⟨_, _, _, _⟩, ⟨_, _, _, _⟩, ⟨_, _, _, _⟩, ⟨_, _, _, _⟩, ⟨_, _, _, _⟩, ⟨_, _, _, _⟩, ⟨_, _, _, _⟩, ⟨_, _, _, _⟩, ⟨_, _, _, _⟩, ⟨_, _, _, _⟩, ⟨_, _, _, _⟩, ⟨_, _, _, _⟩, ⟨_, _, _, _⟩, ⟨_, _, _, _⟩, ⟨_, _, _, _⟩, ⟨_, _, _, _⟩, ⟨_, _, _, _⟩, ⟨_, _, _, _⟩, ⟨_, _, _, _⟩]) rfl rfl ?_
        refine TrA.k #[true, true, true, true, true, true, true, true, false, false] rfl (pinS_ofA (by intro e he; simp only [pinM, List.map_cons, List.map_nil, List.mem_cons, List.not_mem_nil, or_false] at he; rcases he with rfl | rfl <;> simp)) ?_; refine TrA.one 8 (by kernel_rfl) rfl ?_; refine tO (ok_build (fun hp => .cons rfl rfl rfl <| .cons rfl rfl rfl <| .nil)) rfl rfl ?_; refine TrA.k #[true, true, true, true, true, true, true, true, true, false] rfl (pinS_ofA (by intro e he; simp only [pinM, List.map_cons, List.map_nil, List.mem_cons, List.not_mem_nil, or_false] at he; rcases he with rfl | rfl <;> simp)) ?_
        refine TrA.one 9 (by kernel_rfl) rfl ?_; refine TrL.stB rfl rfl rfl rfl ?_; refine TrA.k #[true, true, true, true, true, true, true, true, true, true] rfl (pinS_ofA (by intro e he; simp only [pinM, List.map_cons, List.map_nil, List.mem_cons, List.not_mem_nil, or_false] at he; rcases he with rfl | rfl <;> simp)) ?_; refine TrA.done (by kernel_rfl) ?_; refine End.nxt (Tr.ret ?_); exact Rts.resC1 (fn := Tryz.f111) rfl rfl (aggRd rfl (wh_right hs (by omega) (sub_dig (by omega))))

end Go.Fl

/- Contracts: integers of the package field (products). -/
namespace Go.Fl
open Go Go.Proofs
open TrL renaming op → tO
open RunD renaming op → rO

set_option maxRecDepth 100000 in
set_option maxHeartbeats 1000000 in
theorem ct_wtimes (a b : Int) (ha : dl a ≤ 1000000) (hb : dl b ≤ 1000000) : Ct Tryz.prog 110 [kRd eW (wh a), kRd eW (wh b)] (kRd eW (wh (a * b))) := by
  have hal : (digN a.natAbs).length = dl a := rfl
  have hbl : (digN b.natAbs).length = dl b := rfl
  have hap := dl_pos (z := a)
  have hbp := dl_pos (z := b)
  refine Ct.mk Tryz.func110 rfl Tryz.ntmps110 rfl (fun w J => ?_); refine Tr.seq (Tr.rg ?_); refine TrL.new (ok_box 2 rfl uu rfl) rfl rfl rfl rfl ?_; refine TrL.new (ok_box 3 rfl uu rfl) rfl rfl rfl rfl ?_; refine TrL.new (ok_alloc 4) rfl rfl rfl rfl ?_; refine TrL.fin (End.nxt (Tr.seq (Tr.seq (Tr.rg ?_)))); refine tO (ok_fldO rfl uu) rfl rfl ?_; refine tO (ok_ldB rfl uu rfl) rfl rfl ?_; refine tO (ok_lenJ rfl uu) rfl rfl ?_; refine tO (ok_eql rfl uu rfl uu) rfl rfl ?_; refine mv rfl rfl rfl ?_; refine TrL.gd rfl rfl rfl (ok_fldO rfl uu) rfl rfl ?_; refine TrL.gd rfl rfl rfl (ok_ldB rfl id rfl) rfl rfl ?_
  refine TrL.gd rfl rfl rfl (ok_lenJ rfl id) rfl rfl ?_; refine TrL.gd rfl rfl rfl (ok_eql rfl id rfl uu) rfl rfl ?_; refine tO (ok_or rfl uu rfl (fun hp h => gdF2 ((fun _ => rfl) hp) h)) rfl rfl ?_; refine TrL.fin (End.nxt ?_); refine Tr.cnd rfl ?_ ?_
  · intro h1
    try simp only [decide_eq_true_eq, Bool.or_eq_true] at h1
    refine Tr.seq (Tr.rg ?_); refine tO (ok_build (fun hp => .nil)) rfl rfl ?_; refine TrL.stB rfl rfl rfl rfl ?_; refine TrL.fin (End.nxt (Tr.ret (Rts.thn ?_))); exact Rts.resC1 (fn := Tryz.f110) rfl rfl (aggRd rfl (wh_mul0 (by omega)))
  · intro h1
    try simp only [decide_eq_false_iff_not, Bool.or_eq_false_iff] at h1
    refine Tr.skip (End.nxt (Tr.seq (Tr.rg ?_))); refine tO (ok_fldO rfl uu) rfl rfl ?_; refine tO (ok_ldB rfl uu rfl) rfl rfl ?_; refine tO (ok_lenJ rfl uu) rfl rfl ?_; refine tO (ok_fldO rfl uu) rfl rfl ?_; refine tO (ok_ldB rfl uu rfl) rfl rfl ?_; refine tO (ok_lenJ rfl uu) rfl rfl ?_; refine tO (ok_add rfl uu rfl uu (fun _ => by omega)) rfl rfl ?_; refine TrL.new (ok_make eI 30 rfl uu rfl uu rfl rfl (fun _ => by omega)) rfl rfl rfl rfl ?_; refine mw rfl rfl rfl ?_; refine TrL.fin (End.nxt (Tr.seq (Tr.seq (Tr.rg ?_)))); refine tO (ok_fldO rfl uu) rfl rfl ?_
    refine tO (ok_ldB rfl uu rfl) rfl rfl ?_; refine tO (ok_lenJ rfl uu) rfl rfl ?_; refine mv rfl rfl rfl ?_; refine TrL.fin (End.nxt ?_)
    refine Tr.for1 (σ := Nat × List Int) [⟨2, true, _, _⟩, ⟨3, true, _, _⟩, ⟨4, true, _, _⟩, ⟨32, true, _, _⟩, ⟨33, true, _, _⟩] [⟨2, _, _⟩, ⟨3, _, _⟩, ⟨4, _, _⟩] (fun (i, o) => [⟨5, true, [30], kOsl 30 ((digN a.natAbs).length + (digN b.natAbs).length)⟩, ⟨34, true, [], kI (i : Int)⟩]) (fun (i, o) => [⟨30, [], cArr false 3 eI o ((digN a.natAbs).length + (digN b.natAbs).length)⟩]) (fun (i, o) => i ≤ (digN a.natAbs).length ∧ MuR (digN a.natAbs) (digN b.natAbs) o i) (fun (i, o) => i = (digN a.natAbs).length ∧ MuR (digN a.natAbs) (digN b.natAbs) o (digN a.natAbs).length) (fun (i, o) => (digN a.natAbs).length - i) ((0, List.replicate ((digN a.natAbs).length + (digN b.natAbs).length) 0)) ⟨by omega, MuR.start⟩ (Ent.mk (.o rfl (by omega) rfl <| .i rfl (by first | rfl | omega | simp <;> omega | assumption) <| .k rfl rfl <| .k rfl rfl <| .k rfl rfl <| .k rfl rfl <| .k rfl rfl <| .nil) (.a (by congr 1) (by omega) <| .k rfl <| .k rfl <| .k rfl <| .nil) rfl) ?_ ?_
    · rintro ⟨i, o⟩ ⟨hi, hR⟩
      refine Tr.norm (S' := [⟨5, true, _, _⟩, ⟨34, true, _, _⟩, ⟨2, true, _, _⟩, ⟨3, true, _, _⟩, ⟨4, true, _, _⟩, ⟨32, true, _, _⟩, ⟨33, true, _, _⟩]) (M' := [⟨30, _, _⟩, ⟨2, _, _⟩, ⟨3, _, _⟩, ⟨4, _, _⟩]) rfl rfl ?_
      have hAd := fun (h : i < (digN a.natAbs).length) => (digN_dg a.natAbs).at (i := i) h
      refine Tr.seq (Tr.rg ?_); refine tO (ok_lss rfl uu rfl uu) rfl rfl ?_; refine TrL.fin (End.nxt (Tr.seq ?_)); refine Tr.cnd rfl ?_ ?_
      · intro h5
        replace h5 := of_decide_eq_true h5
        refine Tr.skip (End.nxt (Tr.seq (Tr.blk (Tr.seq (Tr.rg ?_))))); refine mv rfl rfl rfl ?_
        first | refine tO (ok_idxN rfl uu rfl uu rfl (fun _ => by omega)) rfl rfl ?_ | refine tO (ok_idxP rfl uu rfl uu rfl (fun _ => by omega)) rfl rfl ?_
        refine tO (ok_ldP rfl uu rfl) rfl rfl ?_; refine mw rfl rfl rfl ?_; refine mw rfl rfl rfl ?_; refine TrL.fin (End.nxt (Tr.seq (Tr.rg ?_))); refine mw rfl rfl rfl ?_; refine TrL.fin (End.nxt (Tr.seq (Tr.seq (Tr.rg ?_)))); refine tO (ok_fldO rfl uu) rfl rfl ?_; refine tO (ok_ldB rfl uu rfl) rfl rfl ?_; refine tO (ok_lenJ rfl uu) rfl rfl ?_; refine mv rfl rfl rfl ?_; refine TrL.fin (End.nxt ?_)
        refine Tr.for1 (σ := Nat × List Int × Int) [⟨2, true, _, _⟩, ⟨3, true, _, _⟩, ⟨4, true, _, _⟩, ⟨5, true, _, _⟩, ⟨6, true, _, _⟩, ⟨7, true, _, _⟩, ⟨32, true, _, _⟩, ⟨33, true, _, _⟩, ⟨34, true, _, _⟩, ⟨40, true, _, _⟩, ⟨41, true, _, _⟩] [⟨2, _, _⟩, ⟨3, _, _⟩, ⟨4, _, _⟩] (fun (k, o2, c) => [⟨8, true, [], kI c⟩, ⟨42, true, [], kI (k : Int)⟩]) (fun (k, o2, c) => [⟨30, [], cArr false 3 eI o2 ((digN a.natAbs).length + (digN b.natAbs).length)⟩]) (fun (k, o2, c) => k ≤ (digN b.natAbs).length ∧ MuS (digN a.natAbs) (digN b.natAbs) o2 i k c) (fun (k, o2, c) => MuS (digN a.natAbs) (digN b.natAbs) o2 i (digN b.natAbs).length c) (fun (k, o2, c) => (digN b.natAbs).length - k) ((0, o, 0)) ⟨by omega, hR.row⟩ (Ent.mk (.i rfl (by first | rfl | omega | simp <;> omega | assumption) <| .i rfl (by first | rfl | omega | simp <;> omega | assumption) <| .k rfl rfl <| .k rfl rfl <| .k rfl rfl <| .k rfl rfl <| .k rfl rfl <| .k rfl rfl <| .k rfl rfl <| .k rfl rfl <| .k rfl rfl <| .k rfl rfl <| .k rfl rfl <| .nil) (.a (by first | rfl | omega | simp <;> omega | assumption) (by first | rfl | omega | simp <;> omega | assumption) <| .k rfl <| .k rfl <| .k rfl <| .nil) rfl) ?_ ?_
        · rintro ⟨k, o2, c⟩ ⟨hk, hS⟩
          refine Tr.norm (S' := [⟨8, true, _, _⟩, ⟨42, true, _, _⟩, ⟨2, true, _, _⟩, ⟨3, true, _, _⟩, ⟨4, true, _, _⟩, ⟨5, true, _, _⟩, ⟨6, true, _, _⟩, ⟨7, true, _, _⟩, ⟨32, true, _, _⟩, ⟨33, true, _, _⟩, ⟨34, true, _, _⟩, ⟨40, true, _, _⟩, ⟨41, true, _, _⟩]) (M' := [⟨30, _, _⟩, ⟨2, _, _⟩, ⟨3, _, _⟩, ⟨4, _, _⟩]) rfl rfl ?_
          have hn := fun (h : k < (digN b.natAbs).length) => hS.n (digN_dg _) (digN_dg _) (by omega) h
          have hc0 := hS.c0
          refine Tr.seq (Tr.rg ?_); refine tO (ok_lss rfl uu rfl uu) rfl rfl ?_; refine TrL.fin (End.nxt (Tr.seq ?_)); refine Tr.cnd rfl ?_ ?_
          · intro h9
            replace h9 := of_decide_eq_true h9
            refine Tr.skip (End.nxt (Tr.seq (Tr.blk (Tr.seq (Tr.rg ?_))))); refine mv rfl rfl rfl ?_
            first | refine tO (ok_idxN rfl uu rfl uu rfl (fun _ => by omega)) rfl rfl ?_ | refine tO (ok_idxP rfl uu rfl uu rfl (fun _ => by omega)) rfl rfl ?_
            refine tO (ok_ldP rfl uu rfl) rfl rfl ?_; refine mw rfl rfl rfl ?_; refine mw rfl rfl rfl ?_; refine TrL.fin (End.nxt (Tr.seq (Tr.rg ?_)))
            obtain ⟨n1, n2, n3, n4⟩ := hn (by omega)
            refine mv rfl rfl rfl ?_; refine mv rfl rfl rfl ?_; refine mv rfl rfl rfl ?_; refine tO (ok_add rfl uu rfl uu (fun _ => by omega)) rfl rfl ?_
            first | refine tO (ok_idxEN rfl uu rfl uu (fun _ => by omega)) rfl rfl ?_ | refine tO (ok_idxE rfl uu rfl uu (fun _ => by omega)) rfl rfl ?_
            refine tO (ok_ldE rfl uu rfl rfl rfl) rfl rfl ?_; refine mv rfl rfl rfl ?_; refine mv rfl rfl rfl ?_; refine tO (ok_mul rfl uu rfl uu (fun _ => by omega)) rfl rfl ?_; refine tO (ok_add rfl uu rfl uu (fun _ => by omega)) rfl rfl ?_; refine mv rfl rfl rfl ?_; refine tO (ok_add rfl uu rfl uu (fun _ => by omega)) rfl rfl ?_; refine mw rfl rfl rfl ?_; refine TrL.fin (End.nxt (Tr.rg ?_))
            obtain ⟨hq1, hq2, hq3⟩ := td8 (nth o2 (i + k) + nth (digN a.natAbs) i * nth (digN b.natAbs) k + c)
            refine mv rfl rfl rfl ?_; refine mv rfl rfl rfl ?_; refine mv rfl rfl rfl ?_; refine tO (ok_add rfl uu rfl uu (fun _ => by omega)) rfl rfl ?_; refine mv rfl rfl rfl ?_; refine tO (ok_rem rfl uu rfl uu (fun _ => by omega)) rfl rfl ?_; refine mv rfl rfl rfl ?_; refine tO (ok_quo rfl uu rfl uu (fun _ => by omega)) rfl rfl ?_
            first | refine tO (ok_idxEN rfl uu rfl uu (fun _ => by omega)) rfl rfl ?_ | refine tO (ok_idxE rfl uu rfl uu (fun _ => by omega)) rfl rfl ?_
            refine TrL.stE rfl rfl rfl rfl rfl ?_; refine mw rfl rfl rfl ?_; refine TrL.fin (End.blk (End.nxt (Tr.rg ?_))); refine tO (ok_add rfl uu rfl uu (fun _ => by omega)) rfl rfl ?_; refine mv rfl rfl rfl ?_; refine TrL.fin ?_
            exact End.lp ((k + 1, o2.set (i + k) ((nth o2 (i + k) + nth (digN a.natAbs) i * nth (digN b.natAbs) k + c) % 100000000), (nth o2 (i + k) + nth (digN a.natAbs) i * nth (digN b.natAbs) k + c) / 100000000)) ⟨by omega, hS.next (digN_dg _) (digN_dg _) (by omega) (by omega)⟩ (by show (digN b.natAbs).length - (k + 1) < (digN b.natAbs).length - k; omega) (Ent.mk (.i rfl (by rw [Int.tdiv_eq_ediv_of_nonneg (by omega)]) <| .i rfl (by first | rfl | omega | simp <;> omega | assumption) <| .k rfl rfl <| .k rfl rfl <| .k rfl rfl <| .k rfl rfl <| .k rfl rfl <| .k rfl rfl <| .k rfl rfl <| .k rfl rfl <| .k rfl rfl <| .k rfl rfl <| .k rfl rfl <| .nil) (.a (by rw [Int.tmod_eq_emod_of_nonneg (by omega)]) (by first | rfl | omega | simp <;> omega | assumption) <| .k rfl <| .k rfl <| .k rfl <| .nil) rfl)
          · intro h9
            replace h9 := Int.not_lt.1 (of_decide_eq_false h9)
            refine Tr.exit (Exs.thn (Exs.thn (Exs.here ?_)))
            exact End.cut ((k, o2, c)) (by obtain rfl : k = (digN b.natAbs).length := (by omega); exact hS) (Ent.mk (.i rfl (by first | rfl | omega | simp <;> omega | assumption) <| .i rfl (by first | rfl | omega | simp <;> omega | assumption) <| .k rfl rfl <| .k rfl rfl <| .k rfl rfl <| .k rfl rfl <| .k rfl rfl <| .k rfl rfl <| .k rfl rfl <| .k rfl rfl <| .k rfl rfl <| .k rfl rfl <| .k rfl rfl <| .nil) (.a (by first | rfl | omega | simp <;> omega | assumption) (by first | rfl | omega | simp <;> omega | assumption) <| .k rfl <| .k rfl <| .k rfl <| .nil) rfl)
        · rintro ⟨k, o2, c⟩ hS
          refine End.norm (S' := [⟨8, true, _, _⟩, ⟨42, true, _, _⟩, ⟨2, true, _, _⟩, ⟨3, true, _, _⟩, ⟨4, true, _, _⟩, ⟨5, true, _, _⟩, ⟨6, true, _, _⟩, ⟨7, true, _, _⟩, ⟨32, true, _, _⟩, ⟨33, true, _, _⟩, ⟨34, true, _, _⟩, ⟨40, true, _, _⟩, ⟨41, true, _, _⟩]) (M' := [⟨30, _, _⟩, ⟨2, _, _⟩, ⟨3, _, _⟩, ⟨4, _, _⟩]) rfl rfl ?_
          have hc0 := hS.c0
          refine End.nxt (Tr.rg ?_); refine mv rfl rfl rfl ?_; refine mv rfl rfl rfl ?_; refine tO (ok_fldO rfl uu) rfl rfl ?_; refine tO (ok_ldB rfl uu rfl) rfl rfl ?_; refine tO (ok_lenJ rfl uu) rfl rfl ?_; refine tO (ok_add rfl uu rfl uu (fun _ => by omega)) rfl rfl ?_; refine mv rfl rfl rfl ?_
          first | refine tO (ok_idxEN rfl uu rfl uu (fun _ => by omega)) rfl rfl ?_ | refine tO (ok_idxE rfl uu rfl uu (fun _ => by omega)) rfl rfl ?_
          refine TrL.stE rfl rfl rfl rfl rfl ?_; refine TrL.fin (End.blk (End.nxt (Tr.rg ?_))); refine tO (ok_add rfl uu rfl uu (fun _ => by omega)) rfl rfl ?_; refine mv rfl rfl rfl ?_; refine TrL.fin ?_
          exact End.lp ((i + 1, o2.set (i + (digN b.natAbs).length) c)) ⟨by omega, hS.done (by omega)⟩ (by show (digN a.natAbs).length - (i + 1) < (digN a.natAbs).length - i; omega) (Ent.mk (.o rfl (by first | rfl | omega | simp <;> omega | assumption) rfl <| .i rfl (by first | rfl | omega | simp <;> omega | assumption) <| .k rfl rfl <| .k rfl rfl <| .k rfl rfl <| .k rfl rfl <| .k rfl rfl <| .nil) (.a rfl (by first | rfl | omega | simp <;> omega | assumption) <| .k rfl <| .k rfl <| .k rfl <| .nil) rfl)
      · intro h5
        replace h5 := Int.not_lt.1 (of_decide_eq_false h5)
        refine Tr.exit (Exs.thn (Exs.thn (Exs.here ?_)))
        exact End.cut ((i, o)) (by obtain rfl : i = (digN a.natAbs).length := (by omega); exact ⟨rfl, hR⟩) (Ent.mk (.o rfl (by first | rfl | omega | simp <;> omega | assumption) rfl <| .i rfl (by first | rfl | omega | simp <;> omega | assumption) <| .k rfl rfl <| .k rfl rfl <| .k rfl rfl <| .k rfl rfl <| .k rfl rfl <| .nil) (.a (by first | rfl | omega | simp <;> omega | assumption) (by first | rfl | omega | simp <;> omega | assumption) <| .k rfl <| .k rfl <| .k rfl <| .nil) rfl)
    · rintro ⟨i, o⟩ ⟨rfl, hR⟩
      refine End.norm (S' := [⟨5, true, _, _⟩, ⟨34, true, _, _⟩, ⟨2, true, _, _⟩, ⟨3, true, _, _⟩, ⟨4, true, _, _⟩, ⟨32, true, _, _⟩, ⟨33, true, _, _⟩]) (M' := [⟨30, _, _⟩, ⟨2, _, _⟩, ⟨3, _, _⟩, ⟨4, _, _⟩]) rfl rfl ?_; refine End.nxt (Tr.seq ?_); refine Tr.frz 30 [5] ⟨rfl, trivial⟩ (by simp only [lenMax]; omega) rfl ?_; refine Tr.draw 7 mixed (by kernel_rfl) ?_; refine rO (ok_fldO rfl uu) rfl rfl ?_; refine rO (ok_ldB rfl uu rfl) rfl rfl ?_; refine rO (ok_fldO rfl uu) rfl rfl ?_; refine rO (ok_ldB rfl uu rfl) rfl rfl ?_; refine rO (ok_neqB rfl uu rfl uu) rfl rfl ?_; refine rO (ok_move rfl uu) rfl rfl ?_
      refine rO (ok_call (fun hp => ct_trimmed _) (.a rfl uu <| .nil)) rfl rfl ?_; refine RunD.z ?_; refine tO (ok_build (fun hp => .cons rfl rfl rfl <| .cons rfl rfl rfl <| .nil)) rfl rfl ?_; refine TrL.stB rfl rfl rfl rfl ?_; refine TrL.fin (End.nxt (Tr.ret ?_)); exact Rts.resC1 (fn := Tryz.f110) rfl rfl (aggRd rfl (wh_mul (hap.1 (by omega)) (hbp.1 (by omega)) hR))

set_option maxRecDepth 100000 in
set_option maxHeartbeats 1000000 in
theorem ct_wtimesN (a b : Int) (ha : dl a ≤ 1000000) (hb : dl b ≤ 1000000) (h0 : a ≠ 0 ∧ b ≠ 0) : CtN Tryz.prog 110 [kRd eW (wh a), kRd eW (wh b)] (fun t => kAgg [kB (decide (decide (a < 0) ≠ decide (b < 0))), kOsq t 1 0 (digN (a * b).natAbs).length]) (cArr false 3 eI (digN (a * b).natAbs) (digN (a * b).natAbs).length) := by
  have hal : (digN a.natAbs).length = dl a := rfl
  have hbl : (digN b.natAbs).length = dl b := rfl
  have hap := dl_pos (z := a)
  have hbp := dl_pos (z := b)
  refine CtN.mk Tryz.func110 rfl Tryz.ntmps110 rfl (fun w J => ?_); refine Tr.seq (Tr.rg ?_); refine TrL.new (ok_box 2 rfl uu rfl) rfl rfl rfl rfl ?_; refine TrL.new (ok_box 3 rfl uu rfl) rfl rfl rfl rfl ?_; refine TrL.new (ok_alloc 4) rfl rfl rfl rfl ?_; refine TrL.fin (End.nxt (Tr.seq (Tr.seq (Tr.rg ?_)))); refine tO (ok_fldO rfl uu) rfl rfl ?_; refine tO (ok_ldB rfl uu rfl) rfl rfl ?_; refine tO (ok_lenJ rfl uu) rfl rfl ?_; refine tO (ok_eql rfl uu rfl uu) rfl rfl ?_; refine mv rfl rfl rfl ?_; refine TrL.gd rfl rfl rfl (ok_fldO rfl uu) rfl rfl ?_; refine TrL.gd rfl rfl rfl (ok_ldB rfl id rfl) rfl rfl ?_
  refine TrL.gd rfl rfl rfl (ok_lenJ rfl id) rfl rfl ?_; refine TrL.gd rfl rfl rfl (ok_eql rfl id rfl uu) rfl rfl ?_; refine tO (ok_or rfl uu rfl (fun hp h => gdF2 ((fun _ => rfl) hp) h)) rfl rfl ?_; refine TrL.fin (End.nxt ?_); refine Tr.cnd rfl ?_ ?_
  · intro h1
    try simp only [decide_eq_true_eq, Bool.or_eq_true] at h1
    omega
  · intro h1
    try simp only [decide_eq_false_iff_not, Bool.or_eq_false_iff] at h1
    refine Tr.skip (End.nxt (Tr.seq (Tr.rg ?_))); refine tO (ok_fldO rfl uu) rfl rfl ?_; refine tO (ok_ldB rfl uu rfl) rfl rfl ?_; refine tO (ok_lenJ rfl uu) rfl rfl ?_; refine tO (ok_fldO rfl uu) rfl rfl ?_; refine tO (ok_ldB rfl uu rfl) rfl rfl ?_; refine tO (ok_lenJ rfl uu) rfl rfl ?_; refine tO (ok_add rfl uu rfl uu (fun _ => by omega)) rfl rfl ?_; refine TrL.new (ok_make eI 30 rfl uu rfl uu rfl rfl (fun _ => by omega)) rfl rfl rfl rfl ?_; refine mw rfl rfl rfl ?_; refine TrL.fin (End.nxt (Tr.seq (Tr.seq (Tr.rg ?_)))); refine tO (ok_fldO rfl uu) rfl rfl ?_
    refine tO (ok_ldB rfl uu rfl) rfl rfl ?_; refine tO (ok_lenJ rfl uu) rfl rfl ?_; refine mv rfl rfl rfl ?_; refine TrL.fin (End.nxt ?_)
    refine Tr.for1 (σ := Nat × List Int) [⟨2, true, _, _⟩, ⟨3, true, _, _⟩, ⟨4, true, _, _⟩, ⟨32, true, _, _⟩, ⟨33, true, _, _⟩] [⟨2, _, _⟩, ⟨3, _, _⟩, ⟨4, _, _⟩] (fun (i, o) => [⟨5, true, [30], kOsl 30 ((digN a.natAbs).length + (digN b.natAbs).length)⟩, ⟨34, true, [], kI (i : Int)⟩]) (fun (i, o) => [⟨30, [], cArr false 3 eI o ((digN a.natAbs).length + (digN b.natAbs).length)⟩]) (fun (i, o) => i ≤ (digN a.natAbs).length ∧ MuR (digN a.natAbs) (digN b.natAbs) o i) (fun (i, o) => i = (digN a.natAbs).length ∧ MuR (digN a.natAbs) (digN b.natAbs) o (digN a.natAbs).length) (fun (i, o) => (digN a.natAbs).length - i) ((0, List.replicate ((digN a.natAbs).length + (digN b.natAbs).length) 0)) ⟨by omega, MuR.start⟩ (Ent.mk (.o rfl (by omega) rfl <| .i rfl (by first | rfl | omega | simp <;> omega | assumption) <| .k rfl rfl <| .k rfl rfl <| .k rfl rfl <| .k rfl rfl <| .k rfl rfl <| .nil) (.a (by congr 1) (by omega) <| .k rfl <| .k rfl <| .k rfl <| .nil) rfl) ?_ ?_
    · rintro ⟨i, o⟩ ⟨hi, hR⟩
      refine Tr.norm (S' := [⟨5, true, _, _⟩, ⟨34, true, _, _⟩, ⟨2, true, _, _⟩, ⟨3, true, _, _⟩, ⟨4, true, _, _⟩, ⟨32, true, _, _⟩, ⟨33, true, _, _⟩]) (M' := [⟨30, _, _⟩, ⟨2, _, _⟩, ⟨3, _, _⟩, ⟨4, _, _⟩]) rfl rfl ?_
      have hAd := fun (h : i < (digN a.natAbs).length) => (digN_dg a.natAbs).at (i := i) h
      refine Tr.seq (Tr.rg ?_); refine tO (ok_lss rfl uu rfl uu) rfl rfl ?_; refine TrL.fin (End.nxt (Tr.seq ?_)); refine Tr.cnd rfl ?_ ?_
      · intro h5
        replace h5 := of_decide_eq_true h5
        refine Tr.skip (End.nxt (Tr.seq (Tr.blk (Tr.seq (Tr.rg ?_))))); refine mv rfl rfl rfl ?_
        first | refine tO (ok_idxN rfl uu rfl uu rfl (fun _ => by omega)) rfl rfl ?_ | refine tO (ok_idxP rfl uu rfl uu rfl (fun _ => by omega)) rfl rfl ?_
        refine tO (ok_ldP rfl uu rfl) rfl rfl ?_; refine mw rfl rfl rfl ?_; refine mw rfl rfl rfl ?_; refine TrL.fin (End.nxt (Tr.seq (Tr.rg ?_))); refine mw rfl rfl rfl ?_; refine TrL.fin (End.nxt (Tr.seq (Tr.seq (Tr.rg ?_)))); refine tO (ok_fldO rfl uu) rfl rfl ?_; refine tO (ok_ldB rfl uu rfl) rfl rfl ?_; refine tO (ok_lenJ rfl uu) rfl rfl ?_; refine mv rfl rfl rfl ?_; refine TrL.fin (End.nxt ?_)
        refine Tr.for1 (σ := Nat × List Int × Int) [⟨2, true, _, _⟩, ⟨3, true, _, _⟩, ⟨4, true, _, _⟩, ⟨5, true, _, _⟩, ⟨6, true, _, _⟩, ⟨7, true, _, _⟩, ⟨32, true, _, _⟩, ⟨33, true, _, _⟩, ⟨34, true, _, _⟩, ⟨40, true, _, _⟩, ⟨41, true, _, _⟩] [⟨2, _, _⟩, ⟨3, _, _⟩, ⟨4, _, _⟩] (fun (k, o2, c) => [⟨8, true, [], kI c⟩, ⟨42, true, [], kI (k : Int)⟩]) (fun (k, o2, c) => [⟨30, [], cArr false 3 eI o2 ((digN a.natAbs).length + (digN b.natAbs).length)⟩]) (fun (k, o2, c) => k ≤ (digN b.natAbs).length ∧ MuS (digN a.natAbs) (digN b.natAbs) o2 i k c) (fun (k, o2, c) => MuS (digN a.natAbs) (digN b.natAbs) o2 i (digN b.natAbs).length c) (fun (k, o2, c) => (digN b.natAbs).length - k) ((0, o, 0)) ⟨by omega, hR.row⟩ (Ent.mk (.i rfl (by first | rfl | omega | simp <;> omega | assumption) <| .i rfl (by first | rfl | omega | simp <;> omega | assumption) <| .k rfl rfl <| .k rfl rfl <| .k rfl rfl <| .k rfl rfl <| .k rfl rfl <| .k rfl rfl <| .k rfl rfl <| .k rfl rfl <| .k rfl rfl <| .k rfl rfl <| .k rfl rfl <| .nil) (.a (by first | rfl | omega | simp <;> omega | assumption) (by first | rfl | omega | simp <;> omega | assumption) <| .k rfl <| .k rfl <| .k rfl <| .nil) rfl) ?_ ?_
        · rintro ⟨k, o2, c⟩ ⟨hk, hS⟩
          refine Tr.norm (S' := [⟨8, true, _, _⟩, ⟨42, true, _, _⟩, ⟨2, true, _, _⟩, ⟨3, true, _, _⟩, ⟨4, true, _, _⟩, ⟨5, true, _, _⟩, ⟨6, true, _, _⟩, ⟨7, true, _, _⟩, ⟨32, true, _, _⟩, ⟨33, true, _, _⟩, ⟨34, true, _, _⟩, ⟨40, true, _, _⟩, ⟨41, true, _, _⟩]) (M' := [⟨30, _, _⟩, ⟨2, _, _⟩, ⟨3, _, _⟩, ⟨4, _, _⟩]) rfl rfl ?_
          have hn := fun (h : k < (digN b.natAbs).length) => hS.n (digN_dg _) (digN_dg _) (by omega) h
          have hc0 := hS.c0
          refine Tr.seq (Tr.rg ?_); refine tO (ok_lss rfl uu rfl uu) rfl rfl ?_; refine TrL.fin (End.nxt (Tr.seq ?_)); refine Tr.cnd rfl ?_ ?_
          · intro h9
            replace h9 := of_decide_eq_true h9
            refine Tr.skip (End.nxt (Tr.seq (Tr.blk (Tr.seq (Tr.rg ?_))))); refine mv rfl rfl rfl ?_
            first | refine tO (ok_idxN rfl uu rfl uu rfl (fun _ => by omega)) rfl rfl ?_ | refine tO (ok_idxP rfl uu rfl uu rfl (fun _ => by omega)) rfl rfl ?_
            refine tO (ok_ldP rfl uu rfl) rfl rfl ?_; refine mw rfl rfl rfl ?_; refine mw rfl rfl rfl ?_; refine TrL.fin (End.nxt (Tr.seq (Tr.rg ?_)))
            obtain ⟨n1, n2, n3, n4⟩ := hn (by omega)
            refine mv rfl rfl rfl ?_; refine mv rfl rfl rfl ?_; refine mv rfl rfl rfl ?_; refine tO (ok_add rfl uu rfl uu (fun _ => by omega)) rfl rfl ?_
            first | refine tO (ok_idxEN rfl uu rfl uu (fun _ => by omega)) rfl rfl ?_ | refine tO (ok_idxE rfl uu rfl uu (fun _ => by omega)) rfl rfl ?_
            refine tO (ok_ldE rfl uu rfl rfl rfl) rfl rfl ?_; refine mv rfl rfl rfl ?_; refine mv rfl rfl rfl ?_; refine tO (ok_mul rfl uu rfl uu (fun _ => by omega)) rfl rfl ?_; refine tO (ok_add rfl uu rfl uu (fun _ => by omega)) rfl rfl ?_; refine mv rfl rfl rfl ?_; refine tO (ok_add rfl uu rfl uu (fun _ => by omega)) rfl rfl ?_; refine mw rfl rfl rfl ?_; refine TrL.fin (End.nxt (Tr.rg ?_))
            obtain ⟨hq1, hq2, hq3⟩ := td8 (nth o2 (i + k) + nth (digN a.natAbs) i * nth (digN b.natAbs) k + c)
            refine mv rfl rfl rfl ?_; refine mv rfl rfl rfl ?_; refine mv rfl rfl rfl ?_; refine tO (ok_add rfl uu rfl uu (fun _ => by omega)) rfl rfl ?_; refine mv rfl rfl rfl ?_; refine tO (ok_rem rfl uu rfl uu (fun _ => by omega)) rfl rfl ?_; refine mv rfl rfl rfl ?_; refine tO (ok_quo rfl uu rfl uu (fun _ => by omega)) rfl rfl ?_
            first | refine tO (ok_idxEN rfl uu rfl uu (fun _ => by omega)) rfl rfl ?_ | refine tO (ok_idxE rfl uu rfl uu (fun _ => by omega)) rfl rfl ?_
            refine TrL.stE rfl rfl rfl rfl rfl ?_; refine mw rfl rfl rfl ?_; refine TrL.fin (End.blk (End.nxt (Tr.rg ?_))); refine tO (ok_add rfl uu rfl uu (fun _ => by omega)) rfl rfl ?_; refine mv rfl rfl rfl ?_; refine TrL.fin ?_
            exact End.lp ((k + 1, o2.set (i + k) ((nth o2 (i + k) + nth (digN a.natAbs) i * nth (digN b.natAbs) k + c) % 100000000), (nth o2 (i + k) + nth (digN a.natAbs) i * nth (digN b.natAbs) k + c) / 100000000)) ⟨by omega, hS.next (digN_dg _) (digN_dg _) (by omega) (by omega)⟩ (by show (digN b.natAbs).length - (k + 1) < (digN b.natAbs).length - k; omega) (Ent.mk (.i rfl (by rw [Int.tdiv_eq_ediv_of_nonneg (by omega)]) <| .i rfl (by first | rfl | omega | simp <;> omega | assumption) <| .k rfl rfl <| .k rfl rfl <| .k rfl rfl <| .k rfl rfl <| .k rfl rfl <| .k rfl rfl <| .k rfl rfl <| .k rfl rfl <| .k rfl rfl <| .k rfl rfl <| .k rfl rfl <| .nil) (.a (by rw [Int.tmod_eq_emod_of_nonneg (by omega)]) (by first | rfl | omega | simp <;> omega | assumption) <| .k rfl <| .k rfl <| .k rfl <| .nil) rfl)
          · intro h9
            replace h9 := Int.not_lt.1 (of_decide_eq_false h9)
            refine Tr.exit (Exs.thn (Exs.thn (Exs.here ?_)))
            exact End.cut ((k, o2, c)) (by obtain rfl : k = (digN b.natAbs).length := (by omega); exact hS) (Ent.mk (.i rfl (by first | rfl | omega | simp <;> omega | assumption) <| .i rfl (by first | rfl | omega | simp <;> omega | assumption) <| .k rfl rfl <| .k rfl rfl <| .k rfl rfl <| .k rfl rfl <| .k rfl rfl <| .k rfl rfl <| .k rfl rfl <| .k rfl rfl <| .k rfl rfl <| .k rfl rfl <| .k rfl rfl <| .nil) (.a (by first | rfl | omega | simp <;> omega | assumption) (by first | rfl | omega | simp <;> omega | assumption) <| .k rfl <| .k rfl <| .k rfl <| .nil) rfl)
        · rintro ⟨k, o2, c⟩ hS
          refine End.norm (S' := [⟨8, true, _, _⟩, ⟨42, true, _, _⟩, ⟨2, true, _, _⟩, ⟨3, true, _, _⟩, ⟨4, true, _, _⟩, ⟨5, true, _, _⟩, ⟨6, true, _, _⟩, ⟨7, true, _, _⟩, ⟨32, true, _, _⟩, ⟨33, true, _, _⟩, ⟨34, true, _, _⟩, ⟨40, true, _, _⟩, ⟨41, true, _, _⟩]) (M' := [⟨30, _, _⟩, ⟨2, _, _⟩, ⟨3, _, _⟩, ⟨4, _, _⟩]) rfl rfl ?_
          have hc0 := hS.c0
          refine End.nxt (Tr.rg ?_); refine mv rfl rfl rfl ?_; refine mv rfl rfl rfl ?_; refine tO (ok_fldO rfl uu) rfl rfl ?_; refine tO (ok_ldB rfl uu rfl) rfl rfl ?_; refine tO (ok_lenJ rfl uu) rfl rfl ?_; refine tO (ok_add rfl uu rfl uu (fun _ => by omega)) rfl rfl ?_; refine mv rfl rfl rfl ?_
          first | refine tO (ok_idxEN rfl uu rfl uu (fun _ => by omega)) rfl rfl ?_ | refine tO (ok_idxE rfl uu rfl uu (fun _ => by omega)) rfl rfl ?_
          refine TrL.stE rfl rfl rfl rfl rfl ?_; refine TrL.fin (End.blk (End.nxt (Tr.rg ?_))); refine tO (ok_add rfl uu rfl uu (fun _ => by omega)) rfl rfl ?_; refine mv rfl rfl rfl ?_; refine TrL.fin ?_
          exact End.lp ((i + 1, o2.set (i + (digN b.natAbs).length) c)) ⟨by omega, hS.done (by omega)⟩ (by show (digN a.natAbs).length - (i + 1) < (digN a.natAbs).length - i; omega) (Ent.mk (.o rfl (by first | rfl | omega | simp <;> omega | assumption) rfl <| .i rfl (by first | rfl | omega | simp <;> omega | assumption) <| .k rfl rfl <| .k rfl rfl <| .k rfl rfl <| .k rfl rfl <| .k rfl rfl <| .nil) (.a rfl (by first | rfl | omega | simp <;> omega | assumption) <| .k rfl <| .k rfl <| .k rfl <| .nil) rfl)
      · intro h5
        replace h5 := Int.not_lt.1 (of_decide_eq_false h5)
        refine Tr.exit (Exs.thn (Exs.thn (Exs.here ?_)))
        exact End.cut ((i, o)) (by obtain rfl : i = (digN a.natAbs).length := (by omega); exact ⟨rfl, hR⟩) (Ent.mk (.o rfl (by first | rfl | omega | simp <;> omega | assumption) rfl <| .i rfl (by first | rfl | omega | simp <;> omega | assumption) <| .k rfl rfl <| .k rfl rfl <| .k rfl rfl <| .k rfl rfl <| .k rfl rfl <| .nil) (.a (by first | rfl | omega | simp <;> omega | assumption) (by first | rfl | omega | simp <;> omega | assumption) <| .k rfl <| .k rfl <| .k rfl <| .nil) rfl)
    · rintro ⟨i, o⟩ ⟨rfl, hR⟩
      refine End.norm (S' := [⟨5, true, _, _⟩, ⟨34, true, _, _⟩, ⟨2, true, _, _⟩, ⟨3, true, _, _⟩, ⟨4, true, _, _⟩, ⟨32, true, _, _⟩, ⟨33, true, _, _⟩]) (M' := [⟨30, _, _⟩, ⟨2, _, _⟩, ⟨3, _, _⟩, ⟨4, _, _⟩]) rfl rfl ?_; refine End.nxt (Tr.seq ?_); refine Tr.draw 7 mixed (by kernel_rfl) ?_; refine rO (ok_fldO rfl uu) rfl rfl ?_; refine rO (ok_ldB rfl uu rfl) rfl rfl ?_; refine rO (ok_fldO rfl uu) rfl rfl ?_; refine rO (ok_ldB rfl uu rfl) rfl rfl ?_; refine rO (ok_neqB rfl uu rfl uu) rfl rfl ?_; refine rO (ok_move rfl uu) rfl rfl ?_; refine rO (ok_lendV (n := 1) (fun ad cap => ct_trimmedV o ad cap) rfl uu (fun _ => ⟨by omega, by simp only [lenMax]; omega, by have := trim_len (xs := o); rw [hR.len] at this; exact this⟩)) rfl rfl ?_
      refine RunD.z ?_; refine tO (ok_build (fun hp => .cons rfl rfl rfl <| .cons rfl rfl rfl <| .nil)) rfl rfl ?_; refine TrL.stB rfl rfl rfl rfl ?_; refine TrL.fin (End.nxt (Tr.ret ?_)); exact Rts.resNC (fn := Tryz.f110) (u := 30) rfl rfl (fun _ _ _ h => cArr_take (by have := trim_len (xs := o); rw [hR.len, mul_dig hR] at this; exact this) (by rw [← mul_dig hR, trim_pre]) h) (aggQ rfl (by rw [mul_dig hR])) inferInstance

end Go.Fl

/- Integers: long division, as its contract wants it. Plain Lean, no program in sight. -/
namespace Go.Fl
theorem Nm.top {xs : List Int} (h : Nm xs) (h0 : 0 < xs.length) : 0 < nth xs (xs.length - 1) := by
  have hne : xs ≠ [] := List.length_pos_iff.1 h0
  have h3 := h.last hne
  have h4 : nth xs (xs.length - 1) = xs.getLast hne := by
    rw [List.getLast_eq_getElem]
    exact nth_of_get? (List.getElem?_eq_getElem _)
  rw [h4]
  have := h.dg _ (List.getLast_mem hne)
  omega
def lgF (n : Nat) : Int := (100000000 : Int).tdiv (nth (digN n) (((digN n).length : Int) - 1).toNat + 1)
theorem lgD {n : Nat} (h : 0 < (digN n).length) : 0 < nth (digN n) (((digN n).length : Int) - 1).toNat ∧ nth (digN n) (((digN n).length : Int) - 1).toNat < 100000000 := by
  have e : (((digN n).length : Int) - 1).toNat = (digN n).length - 1 := by omega
  rw [e]
  exact ⟨(digN_nm n).top h, ((digN_dg n).at (by omega)).2⟩
theorem tdq {a b : Int} (ha : 0 ≤ a) (hb : 0 < b) : 0 ≤ a.tdiv b ∧ a.tdiv b ≤ a := by
  rw [Int.tdiv_eq_ediv_of_nonneg ha]
  exact ⟨Int.ediv_nonneg ha (by omega), Int.ediv_le_self _ ha⟩
theorem lgF_rng {n : Nat} (h : 0 < (digN n).length) : 0 < lgF n ∧ lgF n ≤ 50000000 := by
  have h1 := lgD h
  unfold lgF
  generalize nth (digN n) (((digN n).length : Int) - 1).toNat = t at *
  rw [Int.tdiv_eq_ediv_of_nonneg (by omega)]
  refine ⟨Int.le_ediv_of_mul_le (by omega) (by omega), Int.le_of_lt_add_one (Int.ediv_lt_of_lt_mul (by omega) (by omega))⟩
def gsI (x y z : Int) : Int := if 99999999 < (x * 100000000 + y).tdiv z then 99999999 else (x * 100000000 + y).tdiv z
theorem gsI_rng {x y z : Int} (hx : 0 ≤ x) (hy : 0 ≤ y) (hz : 0 < z) : 0 ≤ gsI x y z ∧ gsI x y z ≤ 99999999 := by
  have := tdq (a := x * 100000000 + y) (by omega) hz
  unfold gsI
  split <;> omega
theorem gsI_ge {T x y z : Int} (hx : 0 ≤ x) (hy : 0 ≤ y) (h : T ≤ (if 99999999 < (x * 100000000 + y) / z then 99999999 else (x * 100000000 + y) / z)) : T ≤ gsI x y z := by
  unfold gsI
  rw [Int.tdiv_eq_ediv_of_nonneg (by omega)]
  exact h
theorem LgW.bd {u0 u : List Int} {j n : Nat} {T V g : Int} (h : LgW u0 j n T V u g) (hl : j + n < u0.length) (hT : T = val (u0.drop j)) (h0 : 0 ≤ T) (hV : 0 < V) (hVn : V < BP n) : -100000000 < nth u (j + n) := by
  obtain ⟨lo, l0, l1, e⟩ := h.top hl
  have ht := h.t hl hT
  have hg := h.g1
  have h1 : g * V ≤ 99999999 * V := Int.mul_le_mul_of_nonneg_right hg (by omega)
  refine Classical.byContradiction fun hh => ?_
  have h2 : BP n * nth u (j + n) ≤ BP n * (-100000000) := Int.mul_le_mul_of_nonneg_left (by omega) (Int.le_of_lt (BP_pos n))
  omega
theorem lg_x {m n : Nat} {F : Int} (hF : 0 < F) (h : n ≤ m) : ((n : Int) * F).natAbs ≤ ((m : Int) * F).natAbs ∧ n ≤ ((n : Int) * F).natAbs := by
  have h1 : (n : Int) * F ≤ m * F := Int.mul_le_mul_of_nonneg_right (by omega) (by omega)
  have h2 : (n : Int) * 1 ≤ n * F := Int.mul_le_mul_of_nonneg_left (by omega) (by omega)
  omega
theorem lg_fin {m n x y nn : Nat} {F : Int} {u out : List Int} (hF : 0 < F) (hx : x = ((m : Int) * F).natAbs) (hy : y = ((n : Int) * F).natAbs) (hn : 0 < n) (h : LgR (x : Int) (val (digN y)) nn u out 0) :
    trimL out = digN (m / n) ∧ digN (val (trimL u) / F).toNat = digN (m % n) ∧ Dg (trimL u) := by
  have e1 : (x : Int) = F * m := by rw [hx, Int.mul_comm, Int.natAbs_of_nonneg (Int.mul_nonneg (by omega) (by omega))]
  have e2 : (y : Int) = F * n := by rw [hy, Int.mul_comm, Int.natAbs_of_nonneg (Int.mul_nonneg (by omega) (by omega))]
  have h0 : (0 : Int) < F * n := Int.mul_pos hF (by omega)
  obtain ⟨h1, h2, h3, h4⟩ := h.fin (by rw [digN_val]; omega)
  rw [digN_val, e1, e2] at h1 h2
  rw [Int.mul_ediv_mul_of_pos _ _ hF] at h1
  rw [Int.mul_emod_mul_of_pos _ _ hF] at h2
  refine ⟨trim_dig h3 (by rw [h1]; rfl), ?_, (trim_nm h4).dg⟩
  rw [trim_val, h2, Int.mul_ediv_cancel_left _ (by omega)]
  congr 1
theorem wh_nat {n : Nat} : (false, digN n) = wh (n : Int) := wh_pos rfl rfl
theorem dl_small {F : Int} (h0 : 0 ≤ F) (h : F < 100000000) : dl F ≤ 1 := dl_le (by simp [BP]; omega)
end Go.Fl

/- Contracts: integers of the package field (long division). -/
namespace Go.Fl
open Go Go.Proofs
open TrL renaming op → tO
open RunD renaming op → rO

set_option maxRecDepth 100000 in
set_option maxHeartbeats 4000000 in
theorem ct_flong (m n : Nat) (h2 : 2 ≤ (digN n).length) (hnm : n ≤ m) (hm : (digN m).length ≤ 900000) : Ct Tryz.prog 212 [kRd (eL eI) (digN m), kRd (eL eI) (digN n)] (kTup [kRd (eL eI) (digN (m / n)), kRd (eL eI) (digN (m % n))]) := by
  have h00 : ([0, 0] : List Int).length = 2 := rfl
  obtain ⟨F, hF⟩ : ∃ F, F = lgF n := ⟨_, rfl⟩
  obtain ⟨x, hx⟩ : ∃ x : Nat, x = ((m : Int) * F).natAbs := ⟨_, rfl⟩
  obtain ⟨y, hy⟩ : ∃ y : Nat, y = ((n : Int) * F).natAbs := ⟨_, rfl⟩
  obtain ⟨lu, hlu⟩ : ∃ k, k = (digN x).length := ⟨_, rfl⟩
  obtain ⟨nn, hnn⟩ : ∃ k, k = (digN y).length := ⟨_, rfl⟩
  have hFr := lgF_rng (n := n) (by omega)
  rw [← hF] at hFr
  have hlD := lgD (n := n) (by omega)
  have hlx := lg_x hFr.1 hnm
  have hn0 : 0 < n := by have := digN_len0 (n := n); omega
  have hle := digN_len_le hnm
  have hny := digN_len_le (n := n) (m := y) (by omega)
  have hyx := digN_len_le (n := y) (m := x) (by omega)
  have hdm : dl (m : Int) = (digN m).length := rfl
  have hdn : dl (n : Int) = (digN n).length := rfl
  have hdF := dl_small (F := F) (by omega) (by omega)
  have hdx : dl ((m : Int) * F) = lu := by rw [hlu, hx]; rfl
  have hlb := dl_mul (m : Int) F
  have hdx2 : (digN ((m : Int) * F).natAbs).length = lu := by rw [hlu, hx]
  have hV0 : 0 < val (digN y) := by rw [digN_val]; omega
  have hVn : val (digN y) < BP nn := by rw [hnn]; exact (digN_dg y).val1
  have hqF := tdq (a := 100000000) (b := nth (digN n) (((digN n).length : Int) - 1).toNat + 1) (by omega) (by omega)
  refine Ct.mk Tryz.func212 rfl Tryz.ntmps212 rfl (fun w J => ?_); refine Tr.seq (Tr.rg ?_); refine mw rfl rfl rfl ?_; refine mw rfl rfl rfl ?_; refine TrL.fin (End.nxt (Tr.seq (Tr.rg ?_))); refine mv rfl rfl rfl ?_; refine mv rfl rfl rfl ?_; refine tO (ok_lenJ rfl uu) rfl rfl ?_; refine tO (ok_sub rfl uu rfl uu (fun _ => by omega)) rfl rfl ?_
  first | refine tO (ok_idxN rfl uu rfl uu rfl (fun _ => by omega)) rfl rfl ?_ | refine tO (ok_idxP rfl uu rfl uu rfl (fun _ => by omega)) rfl rfl ?_
  refine tO (ok_ldP rfl uu rfl) rfl rfl ?_; refine tO (ok_add rfl uu rfl uu (fun _ => by omega)) rfl rfl ?_; refine tO (ok_quo rfl uu rfl uu (fun _ => by omega)) rfl rfl ?_; refine mw rfl rfl rfl ?_; refine TrL.fin (End.nxt (Tr.seq ?_)); refine Tr.rwI (s := 6) rfl (show _ = F from hF.symm) ?_; refine Tr.rg ?_; refine mv rfl rfl rfl ?_; refine tO (ok_build (fun hp => .cons rfl rfl rfl <| .nil)) rfl rfl ?_; refine mv rfl rfl rfl ?_; refine tO (ok_call (fun hp => ct_fsmall F (by omega)) (.a rfl uu <| .nil)) rfl rfl ?_; refine TrL.new (ok_callN 34 (fun hp => ct_wtimesN (m : Int) F (by omega) (by omega) (by omega)) (.se rfl uu rfl wh_nat <| .a rfl uu <| .nil)) rfl rfl rfl rfl ?_
  refine tO (ok_fieldA Tryz.underlying160 rfl (ft := 22) (off := 1) rfl rfl rfl uu rfl) rfl rfl ?_; refine TrL.new (ok_bsl eI 36 (fun hp => .cons rfl <| .cons rfl <| .nil) rfl rfl rfl rfl) rfl rfl rfl rfl ?_; refine TrL.appQ rfl (Nat.zero_add _) rfl rfl (fun _ _ => inferInstance) rfl rfl (by decide) rfl rfl (by have h : ([0, 0] : List Int).length = 2 := rfl; omega) (by have h : ([0, 0] : List Int).length = 2 := rfl; omega) (fun L2 o2 hq2 => ?_); refine TrL.norm (S' := [⟨_, _, _, _⟩, ⟨_, _, _, _⟩, ⟨_, _, _, _⟩, ⟨_, _, _, _⟩, ⟨_, _, _, _⟩, ⟨_, _, _, _⟩, ⟨_, _, _, _⟩, ⟨_, _, _, _⟩, ⟨_, _, _, _⟩, ⟨_, _, _, _⟩, ⟨_, _, _, _⟩, ⟨_, _, _, _⟩, ⟨_, _, _, _⟩, ⟨_, _, _, _⟩, ⟨_, _, _, _⟩, ⟨_, _, _, _⟩, ⟨_, _, _, _⟩, ⟨_, _, _, _⟩, ⟨_, _, _, _⟩, ⟨_, _, _, _⟩, ⟨_, _, _, _⟩, ⟨_, _, _, _⟩]) rfl rfl ?_
  obtain rfl : o2 = 0 := by omega
  obtain rfl : L2 = digN ((m : Int) * F).natAbs ++ [0, 0] := by simpa using hq2
  refine mw rfl rfl rfl ?_; refine TrL.fin (End.nxt (Tr.seq ?_))
  rw [← hx, ← hlu]
  refine Tr.rg ?_; refine mv rfl rfl rfl ?_; refine tO (ok_build (fun hp => .cons rfl rfl rfl <| .nil)) rfl rfl ?_; refine mv rfl rfl rfl ?_; refine tO (ok_call (fun hp => ct_fsmall F (by omega)) (.a rfl uu <| .nil)) rfl rfl ?_; refine tO (ok_call (fun hp => ct_wtimes (n : Int) F (by omega) (by omega)) (.se rfl uu rfl wh_nat <| .a rfl uu <| .nil)) rfl rfl ?_; refine tO (ok_fieldP Tryz.underlying160 rfl (ft := 22) (off := 1) rfl rfl rfl uu rfl rfl) rfl rfl ?_; refine mw rfl rfl rfl ?_; refine TrL.fin (End.nxt (Tr.seq ?_))
  rw [← hy]
  refine Tr.rg ?_; refine mv rfl rfl rfl ?_; refine tO (ok_lenJ rfl uu) rfl rfl ?_; refine mw rfl rfl rfl ?_; refine TrL.fin (End.nxt (Tr.seq ?_))
  rw [← hnn]
  refine Tr.rg ?_; refine mv rfl rfl rfl ?_; refine tO (ok_lenQ rfl uu) rfl rfl ?_; refine mv rfl rfl rfl ?_; refine tO (ok_sub rfl uu rfl uu (fun _ => by omega)) rfl rfl ?_; refine tO (ok_max rfl uu rfl uu) rfl rfl ?_; refine TrL.new (ok_make eI 51 rfl uu rfl uu rfl rfl (fun _ => by omega)) rfl rfl rfl rfl ?_; refine mw rfl rfl rfl ?_; refine TrL.fin (End.nxt (Tr.seq (Tr.seq (Tr.rg ?_)))); refine mv rfl rfl rfl ?_; refine tO (ok_lenO rfl uu) rfl rfl ?_; refine tO (ok_sub rfl uu rfl uu (fun _ => by omega)) rfl rfl ?_
  refine mw rfl rfl rfl ?_; refine TrL.fin (End.nxt ?_)
  refine Tr.for1 (σ := Nat × List Int × List Int) [⟨6, true, _, _⟩, ⟨8, true, _, _⟩] [] (fun (j, u, out) => [⟨7, true, [34], kOsl 34 (lu + 2)⟩, ⟨9, true, [], kI (nn : Int)⟩, ⟨10, true, [51], kOsl 51 (lu + 2 - nn)⟩, ⟨11, true, [], kI ((j : Int) - 1)⟩]) (fun (j, u, out) => [⟨34, [], cArr false 3 eI u (lu + 2)⟩, ⟨51, [], cArr false 3 eI out (lu + 2 - nn)⟩]) (fun (j, u, out) => u.length = lu + 2 ∧ out.length = lu + 2 - nn ∧ LgR (x : Int) (val (digN y)) nn u out j) (fun (j, u, out) => j = 0 ∧ u.length = lu + 2 ∧ out.length = lu + 2 - nn ∧ LgR (x : Int) (val (digN y)) nn u out 0) (fun (j, u, out) => j) ((lu + 2 - nn, digN x ++ [0, 0], List.replicate (lu + 2 - nn) 0)) ⟨by rw [List.length_append, ← hlu]; rfl, by simp, by rw [hlu]; exact LgR.start (x := (x : Int)) (by omega) (digN_nm y) hnn.symm (by omega) (by show nn ≤ (digN x).length; omega)⟩ (Ent.mk (.conv rfl rfl (fun g v h => kOsq_osl (by omega) h) rfl <| .i rfl (by first | rfl | omega | simp <;> omega | assumption) <| .o rfl (by split <;> omega) rfl <| .i rfl (by split <;> omega) <| .k rfl rfl <| .k rfl rfl <| .nil) (.a (by first | rfl | omega | simp <;> omega | assumption) (by first | rfl | omega | simp <;> omega | assumption) <| .a (by congr 1; split <;> omega) (by split <;> omega) <| .nil) rfl) ?_ ?_
  · rintro ⟨j, u, out⟩ ⟨hul, hol, hR⟩
    refine Tr.norm (S' := [⟨7, true, _, _⟩, ⟨9, true, _, _⟩, ⟨10, true, _, _⟩, ⟨11, true, _, _⟩, ⟨6, true, _, _⟩, ⟨8, true, _, _⟩]) (M' := [⟨34, _, _⟩, ⟨51, _, _⟩]) rfl rfl ?_; refine Tr.seq (Tr.seq (Tr.rg ?_)); refine mv rfl rfl rfl ?_; refine tO (ok_geq rfl uu rfl uu) rfl rfl ?_; refine TrL.fin (End.nxt ?_); refine Tr.cnd rfl ?_ ?_
    · intro h7
      replace h7 := of_decide_eq_true h7
      obtain ⟨j0, rfl⟩ : ∃ j0, j = j0 + 1 := ⟨j - 1, by omega⟩
      have hjo := hR.jo
      obtain ⟨hg1, hg2, hvt, hz, hvlt⟩ := hR.gs (digN_nm y) hnn.symm (by omega)
      have hT0 : 0 ≤ val (u.drop j0) := Dg.val0 fun z hz => hR.dg z (List.mem_of_mem_drop hz)
      have e1 : ((j0 : Int) + nn - 1).toNat = j0 + nn - 1 := by omega
      have e2 : ((nn : Int) - 1).toNat = nn - 1 := by omega
      have hu1 := hR.dg.at (i := j0 + nn) (by omega)
      have hu2 := hR.dg.at (i := ((j0 : Int) + nn - 1).toNat) (by omega)
      have hvt2 : 0 < nth (digN y) ((nn : Int) - 1).toNat := by rw [e2]; exact hvt
      have hq0 := tdq (a := nth u (j0 + nn) * 100000000 + nth u ((j0 : Int) + nn - 1).toNat) (by omega) hvt2
      refine Tr.rwI (s := 11) rfl (show (((j0 + 1 : Nat) : Int) - 1) = (j0 : Int) by omega) ?_; refine Tr.skip (End.nxt (Tr.seq (Tr.blk (Tr.seq ?_)))); refine Tr.draw 20 mixed (by kernel_rfl) ?_; refine rO (ok_move rfl uu) rfl rfl ?_; refine rO (ok_move rfl uu) rfl rfl ?_; refine rO (ok_move rfl uu) rfl rfl ?_; refine rO (ok_add rfl uu rfl uu (fun _ => by omega)) rfl rfl ?_
      first | refine rO (ok_idxEN rfl uu rfl uu (fun _ => by omega)) rfl rfl ?_ | refine rO (ok_idxE rfl uu rfl uu (fun _ => by omega)) rfl rfl ?_
      refine rO (ok_ldE rfl uu rfl rfl rfl) rfl rfl ?_; refine rO (ok_mul rfl uu rfl uu (fun _ => by omega)) rfl rfl ?_; refine rO (ok_move rfl uu) rfl rfl ?_; refine rO (ok_move rfl uu) rfl rfl ?_; refine rO (ok_move rfl uu) rfl rfl ?_; refine rO (ok_add rfl uu rfl uu (fun _ => by omega)) rfl rfl ?_; refine rO (ok_sub rfl uu rfl uu (fun _ => by omega)) rfl rfl ?_
      first | refine rO (ok_idxEN rfl uu rfl uu (fun _ => by omega)) rfl rfl ?_ | refine rO (ok_idxE rfl uu rfl uu (fun _ => by omega)) rfl rfl ?_
      refine rO (ok_ldE rfl uu rfl rfl rfl) rfl rfl ?_; refine rO (ok_add rfl uu rfl uu (fun _ => by omega)) rfl rfl ?_; refine rO (ok_move rfl uu) rfl rfl ?_; refine rO (ok_move rfl uu) rfl rfl ?_; refine rO (ok_sub rfl uu rfl uu (fun _ => by omega)) rfl rfl ?_
      first | refine rO (ok_idxN rfl uu rfl uu rfl (fun _ => by omega)) rfl rfl ?_ | refine rO (ok_idxP rfl uu rfl uu rfl (fun _ => by omega)) rfl rfl ?_
      refine rO (ok_ldP rfl uu rfl) rfl rfl ?_; refine RunD.z ?_; refine tO (ok_quo rfl uu rfl uu (fun _ => by omega)) rfl rfl ?_; refine tO (ok_min rfl uu rfl uu) rfl rfl ?_; refine mw rfl rfl rfl ?_; refine TrL.fin (End.nxt (Tr.seq ?_))
      obtain ⟨g, hg⟩ : ∃ g, g = gsI (nth u (j0 + nn)) (nth u ((j0 : Int) + nn - 1).toNat) (nth (digN y) ((nn : Int) - 1).toNat) := ⟨_, rfl⟩
      refine Tr.rwI (s := 12) rfl (show _ = g from hg.symm) ?_
      have hgr := gsI_rng hu1.1 hu2.1 hvt2
      rw [← hg] at hgr
      have hgT : val (u.drop j0) / val (digN y) ≤ g := by rw [hg]; exact gsI_ge hu1.1 hu2.1 (by rw [e1, e2]; exact hg1)
      refine Tr.rg ?_; refine mw rfl rfl rfl ?_; refine TrL.fin (End.nxt (Tr.seq (Tr.seq (Tr.rg ?_)))); refine mv rfl rfl rfl ?_; refine mv rfl rfl rfl ?_; refine TrL.fin (End.nxt ?_)
      refine Tr.for1 (σ := Nat × List Int × Int) [⟨6, true, _, _⟩, ⟨7, true, _, _⟩, ⟨8, true, _, _⟩, ⟨9, true, _, _⟩, ⟨10, true, _, _⟩, ⟨11, true, _, _⟩, ⟨12, true, _, _⟩, ⟨81, true, _, _⟩] [⟨51, _, _⟩] (fun (i, u1, c) => [⟨13, true, [], kI c⟩, ⟨82, true, [], kI (i : Int)⟩]) (fun (i, u1, c) => [⟨34, [], cArr false 3 eI u1 (lu + 2)⟩]) (fun (i, u1, c) => i ≤ nn ∧ LgS u (digN y) j0 (-g) u1 i c) (fun (i, u1, c) => LgS u (digN y) j0 (-g) u1 nn c) (fun (i, u1, c) => nn - i) ((0, u, 0)) ⟨by omega, LgS.start⟩ (Ent.mk (.i rfl (by first | rfl | omega | simp <;> omega | assumption) <| .i rfl (by first | rfl | omega | simp <;> omega | assumption) <| .k rfl rfl <| .k rfl rfl <| .k rfl rfl <| .k rfl rfl <| .k rfl rfl <| .k rfl rfl <| .k rfl rfl <| .k rfl rfl <| .nil) (.a (by first | rfl | omega | simp <;> omega | assumption) (by first | rfl | omega | simp <;> omega | assumption) <| .k rfl <| .nil) rfl) ?_ ?_
      · rintro ⟨i, u1, c⟩ ⟨hi, hS⟩
        refine Tr.norm (S' := [⟨13, true, _, _⟩, ⟨82, true, _, _⟩, ⟨6, true, _, _⟩, ⟨7, true, _, _⟩, ⟨8, true, _, _⟩, ⟨9, true, _, _⟩, ⟨10, true, _, _⟩, ⟨11, true, _, _⟩, ⟨12, true, _, _⟩, ⟨81, true, _, _⟩]) (M' := [⟨34, _, _⟩, ⟨51, _, _⟩]) rfl rfl ?_
        have hsl := hS.len
        have hcb := hS.cb
        refine Tr.seq (Tr.rg ?_); refine tO (ok_lss rfl uu rfl uu) rfl rfl ?_; refine TrL.fin (End.nxt (Tr.seq ?_)); refine Tr.cnd rfl ?_ ?_
        · intro h12
          replace h12 := of_decide_eq_true h12
          refine Tr.skip (End.nxt (Tr.seq (Tr.blk (Tr.seq (Tr.rg ?_))))); refine mv rfl rfl rfl ?_; refine mw rfl rfl rfl ?_; refine TrL.fin (End.nxt (Tr.seq ?_)); refine Tr.draw 20 mixed (by kernel_rfl) ?_
          obtain ⟨s1, s2⟩ := hS.next (digN_dg y) ⟨by omega, by omega⟩ (by omega) (by omega) (hR.dg.at (by omega))
          have hb := LgS.b (digN_dg y) (s := -g) ⟨by omega, by omega⟩ (show i < (digN y).length by omega)
          have hng : -g * nth (digN y) i = -(g * nth (digN y) i) := Int.neg_mul _ _
          have hu3 : nth u1 (i + j0) = nth u (j0 + i) := by rw [Nat.add_comm]; exact s1
          have hu4 := hR.dg.at (i := j0 + i) (by omega)
          have hval : nth u1 (i + j0) - g * nth (digN y) i + c = nth u (j0 + i) + -g * nth (digN y) i + c := by omega
          refine rO (ok_move rfl uu) rfl rfl ?_; refine rO (ok_move rfl uu) rfl rfl ?_; refine rO (ok_move rfl uu) rfl rfl ?_; refine rO (ok_add rfl uu rfl uu (fun _ => by omega)) rfl rfl ?_
          first | refine rO (ok_idxEN rfl uu rfl uu (fun _ => by omega)) rfl rfl ?_ | refine rO (ok_idxE rfl uu rfl uu (fun _ => by omega)) rfl rfl ?_
          refine rO (ok_ldE rfl uu rfl rfl rfl) rfl rfl ?_; refine rO (ok_move rfl uu) rfl rfl ?_; refine rO (ok_move rfl uu) rfl rfl ?_; refine rO (ok_move rfl uu) rfl rfl ?_
          first | refine rO (ok_idxN rfl uu rfl uu rfl (fun _ => by omega)) rfl rfl ?_ | refine rO (ok_idxP rfl uu rfl uu rfl (fun _ => by omega)) rfl rfl ?_
          refine rO (ok_ldP rfl uu rfl) rfl rfl ?_; refine rO (ok_mul rfl uu rfl uu (fun _ => by omega)) rfl rfl ?_; refine rO (ok_sub rfl uu rfl uu (fun _ => by omega)) rfl rfl ?_; refine rO (ok_move rfl uu) rfl rfl ?_; refine rO (ok_add rfl uu rfl uu (fun _ => by omega)) rfl rfl ?_; refine rO (ok_call (fun hp => ct_floored _ (by omega)) (.a rfl uu <| .nil)) rfl rfl ?_; refine rO (ok_move rfl uu) rfl rfl ?_; refine rO (ok_ext rfl uu rfl) rfl rfl ?_; refine rO (ok_ext rfl uu rfl) rfl rfl ?_; refine rO (ok_assign rfl uu) rfl rfl ?_; refine RunD.z ?_
          refine mw rfl rfl rfl ?_; refine TrL.fin (End.nxt (Tr.rg ?_)); refine mv rfl rfl rfl ?_; refine mv rfl rfl rfl ?_; refine mv rfl rfl rfl ?_; refine tO (ok_add rfl uu rfl uu (fun _ => by omega)) rfl rfl ?_; refine mv rfl rfl rfl ?_; refine mv rfl rfl rfl ?_
          first | refine tO (ok_idxEN rfl uu rfl uu (fun _ => by omega)) rfl rfl ?_ | refine tO (ok_idxE rfl uu rfl uu (fun _ => by omega)) rfl rfl ?_
          refine TrL.stE rfl rfl rfl rfl rfl ?_; refine mw rfl rfl rfl ?_; refine TrL.fin (End.blk (End.nxt (Tr.rg ?_))); refine tO (ok_add rfl uu rfl uu (fun _ => by omega)) rfl rfl ?_; refine mv rfl rfl rfl ?_; refine TrL.fin ?_
          exact End.lp ((i + 1, u1.set (j0 + i) ((nth u (j0 + i) + -g * nth (digN y) i + c) % 100000000), (nth u (j0 + i) + -g * nth (digN y) i + c) / 100000000)) ⟨by omega, s2⟩ (by show nn - (i + 1) < nn - i; omega) (Ent.mk (.i rfl (by rw [hval]) <| .i rfl (by first | rfl | omega | simp <;> omega | assumption) <| .k rfl rfl <| .k rfl rfl <| .k rfl rfl <| .k rfl rfl <| .k rfl rfl <| .k rfl rfl <| .k rfl rfl <| .k rfl rfl <| .nil) (.a (by rw [hval, Nat.add_comm i j0]) (by first | rfl | omega | simp <;> omega | assumption) <| .k rfl <| .nil) rfl)
        · intro h12
          replace h12 := Int.not_lt.1 (of_decide_eq_false h12)
          refine Tr.exit (Exs.thn (Exs.thn (Exs.here ?_)))
          exact End.cut ((i, u1, c)) (by obtain rfl : i = nn := (by omega); exact hS) (Ent.mk (.i rfl (by first | rfl | omega | simp <;> omega | assumption) <| .i rfl (by first | rfl | omega | simp <;> omega | assumption) <| .k rfl rfl <| .k rfl rfl <| .k rfl rfl <| .k rfl rfl <| .k rfl rfl <| .k rfl rfl <| .k rfl rfl <| .k rfl rfl <| .nil) (.a (by first | rfl | omega | simp <;> omega | assumption) (by first | rfl | omega | simp <;> omega | assumption) <| .k rfl <| .nil) rfl)
      · rintro ⟨i, u1, c⟩ hS
        refine End.norm (S' := [⟨13, true, _, _⟩, ⟨82, true, _, _⟩, ⟨6, true, _, _⟩, ⟨7, true, _, _⟩, ⟨8, true, _, _⟩, ⟨9, true, _, _⟩, ⟨10, true, _, _⟩, ⟨11, true, _, _⟩, ⟨12, true, _, _⟩, ⟨81, true, _, _⟩]) (M' := [⟨34, _, _⟩, ⟨51, _, _⟩]) rfl rfl ?_
        have hsl := hS.len
        have hcb := hS.cb
        have hst := hS.same (j0 + nn) (.inr (Nat.le_refl _))
        refine End.nxt (Tr.seq (Tr.rg ?_)); refine mv rfl rfl rfl ?_; refine mv rfl rfl rfl ?_; refine mv rfl rfl rfl ?_; refine tO (ok_add rfl uu rfl uu (fun _ => by omega)) rfl rfl ?_
        first | refine tO (ok_idxEN rfl uu rfl uu (fun _ => by omega)) rfl rfl ?_ | refine tO (ok_idxE rfl uu rfl uu (fun _ => by omega)) rfl rfl ?_
        refine tO (ok_ldE rfl uu rfl rfl rfl) rfl rfl ?_; refine mv rfl rfl rfl ?_; refine tO (ok_add rfl uu rfl uu (fun _ => by omega)) rfl rfl ?_
        first | refine tO (ok_idxEN rfl uu rfl uu (fun _ => by omega)) rfl rfl ?_ | refine tO (ok_idxE rfl uu rfl uu (fun _ => by omega)) rfl rfl ?_
        refine TrL.stE rfl rfl rfl rfl rfl ?_; refine TrL.fin (End.nxt ?_)
        refine Tr.for (σ := List Int × Int) [⟨6, true, _, _⟩, ⟨7, true, _, _⟩, ⟨8, true, _, _⟩, ⟨9, true, _, _⟩, ⟨10, true, _, _⟩, ⟨11, true, _, _⟩] [⟨51, _, _⟩] (fun (u2, g2) => [⟨12, true, [], kI g2⟩]) (fun (u2, g2) => [⟨34, [], cArr false 3 eI u2 (lu + 2)⟩]) (fun (u2, g2) => LgW u j0 nn (val (u.drop j0)) (val (digN y)) u2 g2) (fun (u2, g2) => LgW u j0 nn (val (u.drop j0)) (val (digN y)) u2 g2 ∧ 0 ≤ nth u2 (j0 + nn)) (fun (u2, g2) => g2.toNat) ((u1.set (j0 + nn) (nth u1 (j0 + nn) + c), g)) (LgW.mk' hR (by omega) hS hnn.symm rfl hz hgT hgr.2) (Ent.mk (.i rfl (by first | rfl | omega | simp <;> omega | assumption) <| .k rfl rfl <| .k rfl rfl <| .k rfl rfl <| .k rfl rfl <| .k rfl rfl <| .k rfl rfl <| .nil) (.a (by first | rfl | omega | simp <;> omega | assumption) (by first | rfl | omega | simp <;> omega | assumption) <| .k rfl <| .nil) rfl) ?_ ?_
        · rintro ⟨u2, g2⟩ hW
          refine Tr.norm (S' := [⟨12, true, _, _⟩, ⟨6, true, _, _⟩, ⟨7, true, _, _⟩, ⟨8, true, _, _⟩, ⟨9, true, _, _⟩, ⟨10, true, _, _⟩, ⟨11, true, _, _⟩]) (M' := [⟨34, _, _⟩, ⟨51, _, _⟩]) rfl rfl ?_
          have hwl := hW.len
          have hwg := hW.g1
          have hwb := hW.bd (by omega) rfl hT0 hV0 hVn
          refine Tr.seq (Tr.seq (Tr.rg ?_)); refine mv rfl rfl rfl ?_; refine mv rfl rfl rfl ?_; refine mv rfl rfl rfl ?_; refine tO (ok_add rfl uu rfl uu (fun _ => by omega)) rfl rfl ?_
          first | refine tO (ok_idxEN rfl uu rfl uu (fun _ => by omega)) rfl rfl ?_ | refine tO (ok_idxE rfl uu rfl uu (fun _ => by omega)) rfl rfl ?_
          refine tO (ok_ldE rfl uu rfl rfl rfl) rfl rfl ?_; refine tO (ok_lss rfl uu rfl uu) rfl rfl ?_; refine TrL.fin (End.nxt ?_); refine Tr.cnd rfl ?_ ?_
          · intro h18
            replace h18 := of_decide_eq_true h18
            have hlt := hW.lt (by omega) rfl h18 hV0
            refine Tr.skip (End.nxt (Tr.blk (Tr.seq (Tr.rg ?_)))); refine mv rfl rfl rfl ?_; refine tO (ok_sub rfl uu rfl uu (fun _ => by omega)) rfl rfl ?_; refine mw rfl rfl rfl ?_; refine TrL.fin (End.nxt (Tr.seq (Tr.rg ?_))); refine mw rfl rfl rfl ?_; refine TrL.fin (End.nxt (Tr.seq (Tr.seq (Tr.rg ?_)))); refine mv rfl rfl rfl ?_; refine mv rfl rfl rfl ?_; refine TrL.fin (End.nxt ?_)
            refine Tr.for1 (σ := Nat × List Int × Int) [⟨6, true, _, _⟩, ⟨7, true, _, _⟩, ⟨8, true, _, _⟩, ⟨9, true, _, _⟩, ⟨10, true, _, _⟩, ⟨11, true, _, _⟩, ⟨12, true, _, _⟩, ⟨130, true, _, _⟩] [⟨51, _, _⟩] (fun (i, u3, c3) => [⟨13, true, [], kI c3⟩, ⟨131, true, [], kI (i : Int)⟩]) (fun (i, u3, c3) => [⟨34, [], cArr false 3 eI u3 (lu + 2)⟩]) (fun (i, u3, c3) => i ≤ nn ∧ LgS u2 (digN y) j0 1 u3 i c3) (fun (i, u3, c3) => LgS u2 (digN y) j0 1 u3 nn c3) (fun (i, u3, c3) => nn - i) ((0, u2, 0)) ⟨by omega, LgS.start⟩ (Ent.mk (.i rfl (by first | rfl | omega | simp <;> omega | assumption) <| .i rfl (by first | rfl | omega | simp <;> omega | assumption) <| .k rfl rfl <| .k rfl rfl <| .k rfl rfl <| .k rfl rfl <| .k rfl rfl <| .k rfl rfl <| .k rfl rfl <| .k rfl rfl <| .nil) (.a (by first | rfl | omega | simp <;> omega | assumption) (by first | rfl | omega | simp <;> omega | assumption) <| .k rfl <| .nil) rfl) ?_ ?_
            · rintro ⟨i, u3, c3⟩ ⟨hi, hS3⟩
              refine Tr.norm (S' := [⟨13, true, _, _⟩, ⟨131, true, _, _⟩, ⟨6, true, _, _⟩, ⟨7, true, _, _⟩, ⟨8, true, _, _⟩, ⟨9, true, _, _⟩, ⟨10, true, _, _⟩, ⟨11, true, _, _⟩, ⟨12, true, _, _⟩, ⟨130, true, _, _⟩]) (M' := [⟨34, _, _⟩, ⟨51, _, _⟩]) rfl rfl ?_
              have hsl3 := hS3.len
              have hcb3 := hS3.cb
              refine Tr.seq (Tr.rg ?_); refine tO (ok_lss rfl uu rfl uu) rfl rfl ?_; refine TrL.fin (End.nxt (Tr.seq ?_)); refine Tr.cnd rfl ?_ ?_
              · intro h22
                replace h22 := of_decide_eq_true h22
                refine Tr.skip (End.nxt (Tr.seq (Tr.blk (Tr.seq (Tr.rg ?_))))); refine mv rfl rfl rfl ?_; refine mw rfl rfl rfl ?_; refine TrL.fin (End.nxt (Tr.seq ?_)); refine Tr.draw 18 mixed (by kernel_rfl) ?_
                have hu4 := hW.dg (j0 + i) (by omega) (by omega)
                obtain ⟨t1, t2⟩ := hS3.next (digN_dg y) ⟨by omega, by omega⟩ (by omega) (by omega) hu4
                have hvd := (digN_dg y).at (i := i) (by omega)
                have hu3 : nth u3 (i + j0) = nth u2 (j0 + i) := by rw [Nat.add_comm]; exact t1
                have hval3 : nth u3 (i + j0) + nth (digN y) i + c3 = nth u2 (j0 + i) + 1 * nth (digN y) i + c3 := by omega
                refine rO (ok_move rfl uu) rfl rfl ?_; refine rO (ok_move rfl uu) rfl rfl ?_; refine rO (ok_move rfl uu) rfl rfl ?_; refine rO (ok_add rfl uu rfl uu (fun _ => by omega)) rfl rfl ?_
                first | refine rO (ok_idxEN rfl uu rfl uu (fun _ => by omega)) rfl rfl ?_ | refine rO (ok_idxE rfl uu rfl uu (fun _ => by omega)) rfl rfl ?_
                refine rO (ok_ldE rfl uu rfl rfl rfl) rfl rfl ?_; refine rO (ok_move rfl uu) rfl rfl ?_; refine rO (ok_move rfl uu) rfl rfl ?_
                first | refine rO (ok_idxN rfl uu rfl uu rfl (fun _ => by omega)) rfl rfl ?_ | refine rO (ok_idxP rfl uu rfl uu rfl (fun _ => by omega)) rfl rfl ?_
                refine rO (ok_ldP rfl uu rfl) rfl rfl ?_; refine rO (ok_add rfl uu rfl uu (fun _ => by omega)) rfl rfl ?_; refine rO (ok_move rfl uu) rfl rfl ?_; refine rO (ok_add rfl uu rfl uu (fun _ => by omega)) rfl rfl ?_; refine rO (ok_call (fun hp => ct_floored _ (by omega)) (.a rfl uu <| .nil)) rfl rfl ?_; refine rO (ok_move rfl uu) rfl rfl ?_; refine rO (ok_ext rfl uu rfl) rfl rfl ?_; refine rO (ok_ext rfl uu rfl) rfl rfl ?_; refine rO (ok_assign rfl uu) rfl rfl ?_; refine RunD.z ?_; refine mw rfl rfl rfl ?_; refine TrL.fin (End.nxt (Tr.rg ?_))
                refine mv rfl rfl rfl ?_; refine mv rfl rfl rfl ?_; refine mv rfl rfl rfl ?_; refine tO (ok_add rfl uu rfl uu (fun _ => by omega)) rfl rfl ?_; refine mv rfl rfl rfl ?_; refine mv rfl rfl rfl ?_
                first | refine tO (ok_idxEN rfl uu rfl uu (fun _ => by omega)) rfl rfl ?_ | refine tO (ok_idxE rfl uu rfl uu (fun _ => by omega)) rfl rfl ?_
                refine TrL.stE rfl rfl rfl rfl rfl ?_; refine mw rfl rfl rfl ?_; refine TrL.fin (End.blk (End.nxt (Tr.rg ?_))); refine tO (ok_add rfl uu rfl uu (fun _ => by omega)) rfl rfl ?_; refine mv rfl rfl rfl ?_; refine TrL.fin ?_
                exact End.lp ((i + 1, u3.set (j0 + i) ((nth u2 (j0 + i) + 1 * nth (digN y) i + c3) % 100000000), (nth u2 (j0 + i) + 1 * nth (digN y) i + c3) / 100000000)) ⟨by omega, t2⟩ (by show nn - (i + 1) < nn - i; omega) (Ent.mk (.i rfl (by rw [hval3]) <| .i rfl (by first | rfl | omega | simp <;> omega | assumption) <| .k rfl rfl <| .k rfl rfl <| .k rfl rfl <| .k rfl rfl <| .k rfl rfl <| .k rfl rfl <| .k rfl rfl <| .k rfl rfl <| .nil) (.a (by rw [hval3, Nat.add_comm i j0]) (by first | rfl | omega | simp <;> omega | assumption) <| .k rfl <| .nil) rfl)
              · intro h22
                replace h22 := Int.not_lt.1 (of_decide_eq_false h22)
                refine Tr.exit (Exs.thn (Exs.thn (Exs.here ?_)))
                exact End.cut ((i, u3, c3)) (by obtain rfl : i = nn := (by omega); exact hS3) (Ent.mk (.i rfl (by first | rfl | omega | simp <;> omega | assumption) <| .i rfl (by first | rfl | omega | simp <;> omega | assumption) <| .k rfl rfl <| .k rfl rfl <| .k rfl rfl <| .k rfl rfl <| .k rfl rfl <| .k rfl rfl <| .k rfl rfl <| .k rfl rfl <| .nil) (.a (by first | rfl | omega | simp <;> omega | assumption) (by first | rfl | omega | simp <;> omega | assumption) <| .k rfl <| .nil) rfl)
            · rintro ⟨i, u3, c3⟩ hS3
              refine End.norm (S' := [⟨13, true, _, _⟩, ⟨131, true, _, _⟩, ⟨6, true, _, _⟩, ⟨7, true, _, _⟩, ⟨8, true, _, _⟩, ⟨9, true, _, _⟩, ⟨10, true, _, _⟩, ⟨11, true, _, _⟩, ⟨12, true, _, _⟩, ⟨130, true, _, _⟩]) (M' := [⟨34, _, _⟩, ⟨51, _, _⟩]) rfl rfl ?_
              have hsl3 := hS3.len
              have hcb3 := hS3.cb
              have hst3 := hS3.same (j0 + nn) (.inr (Nat.le_refl _))
              refine End.nxt (Tr.rg ?_); refine mv rfl rfl rfl ?_; refine mv rfl rfl rfl ?_; refine mv rfl rfl rfl ?_; refine tO (ok_add rfl uu rfl uu (fun _ => by omega)) rfl rfl ?_
              first | refine tO (ok_idxEN rfl uu rfl uu (fun _ => by omega)) rfl rfl ?_ | refine tO (ok_idxE rfl uu rfl uu (fun _ => by omega)) rfl rfl ?_
              refine tO (ok_ldE rfl uu rfl rfl rfl) rfl rfl ?_; refine mv rfl rfl rfl ?_; refine tO (ok_add rfl uu rfl uu (fun _ => by omega)) rfl rfl ?_
              first | refine tO (ok_idxEN rfl uu rfl uu (fun _ => by omega)) rfl rfl ?_ | refine tO (ok_idxE rfl uu rfl uu (fun _ => by omega)) rfl rfl ?_
              refine TrL.stE rfl rfl rfl rfl rfl ?_; refine TrL.fin (End.blk ?_)
              exact End.lp ((u3.set (j0 + nn) (nth u3 (j0 + nn) + c3), g2 - 1)) (hW.back (by omega) rfl h18 hV0 hS3 hnn.symm rfl) (by show (g2 - 1).toNat < g2.toNat; omega) (Ent.mk (.i rfl (by first | rfl | omega | simp <;> omega | assumption) <| .k rfl rfl <| .k rfl rfl <| .k rfl rfl <| .k rfl rfl <| .k rfl rfl <| .k rfl rfl <| .nil) (.a (by first | rfl | omega | simp <;> omega | assumption) (by first | rfl | omega | simp <;> omega | assumption) <| .k rfl <| .nil) rfl)
          · intro h18
            replace h18 := Int.not_lt.1 (of_decide_eq_false h18)
            refine Tr.exit (Exs.thn (Exs.thn (Exs.here ?_)))
            exact End.cut ((u2, g2)) ⟨hW, by omega⟩ (Ent.mk (.i rfl (by first | rfl | omega | simp <;> omega | assumption) <| .k rfl rfl <| .k rfl rfl <| .k rfl rfl <| .k rfl rfl <| .k rfl rfl <| .k rfl rfl <| .nil) (.a (by first | rfl | omega | simp <;> omega | assumption) (by first | rfl | omega | simp <;> omega | assumption) <| .k rfl <| .nil) rfl)
        · rintro ⟨u2, g2⟩ ⟨hW, hW0⟩
          refine Tr.norm (S' := [⟨12, true, _, _⟩, ⟨6, true, _, _⟩, ⟨7, true, _, _⟩, ⟨8, true, _, _⟩, ⟨9, true, _, _⟩, ⟨10, true, _, _⟩, ⟨11, true, _, _⟩]) (M' := [⟨34, _, _⟩, ⟨51, _, _⟩]) rfl rfl ?_
          have hwl := hW.len
          have hwg := hW.g1
          refine Tr.rg ?_; refine mv rfl rfl rfl ?_; refine mv rfl rfl rfl ?_; refine mv rfl rfl rfl ?_
          first | refine tO (ok_idxEN rfl uu rfl uu (fun _ => by omega)) rfl rfl ?_ | refine tO (ok_idxE rfl uu rfl uu (fun _ => by omega)) rfl rfl ?_
          refine TrL.stE rfl rfl rfl rfl rfl ?_; refine TrL.fin (End.blk (End.nxt (Tr.rg ?_))); refine mv rfl rfl rfl ?_; refine tO (ok_sub rfl uu rfl uu (fun _ => by omega)) rfl rfl ?_; refine mw rfl rfl rfl ?_; refine TrL.fin ?_
          exact End.lp ((j0, u2, out.set j0 g2)) ⟨by rw [hW.len]; exact hul, by rw [List.length_set]; exact hol, hR.next hW (by omega) (by omega) hV0 hVn⟩ (by show j0 < j0 + 1; omega) (Ent.mk (.o rfl (by first | rfl | omega | simp <;> omega | assumption) rfl <| .i rfl (by first | rfl | omega | simp <;> omega | assumption) <| .o rfl (by first | rfl | omega | simp <;> omega | assumption) rfl <| .i rfl (by first | rfl | omega | simp <;> omega | assumption) <| .k rfl rfl <| .k rfl rfl <| .nil) (.a (by first | rfl | omega | simp <;> omega | assumption) (by first | rfl | omega | simp <;> omega | assumption) <| .a (by first | rfl | omega | simp <;> omega | assumption) (by first | rfl | omega | simp <;> omega | assumption) <| .nil) rfl)
    · intro h7
      replace h7 := Int.not_le.1 (of_decide_eq_false h7)
      refine Tr.exit (Exs.thn (Exs.thn (Exs.here ?_)))
      exact End.cut ((j, u, out)) (by obtain rfl : j = 0 := (by omega); exact ⟨rfl, hul, hol, hR⟩) (Ent.mk (.o rfl (by first | rfl | omega | simp <;> omega | assumption) rfl <| .i rfl (by first | rfl | omega | simp <;> omega | assumption) <| .o rfl (by first | rfl | omega | simp <;> omega | assumption) rfl <| .i rfl (by first | rfl | omega | simp <;> omega | assumption) <| .k rfl rfl <| .k rfl rfl <| .nil) (.a (by first | rfl | omega | simp <;> omega | assumption) (by first | rfl | omega | simp <;> omega | assumption) <| .a (by first | rfl | omega | simp <;> omega | assumption) (by first | rfl | omega | simp <;> omega | assumption) <| .nil) rfl)
  · rintro ⟨_, u, out⟩ ⟨rfl, hul, hol, hR⟩
    refine End.norm (S' := [⟨7, true, _, _⟩, ⟨9, true, _, _⟩, ⟨10, true, _, _⟩, ⟨11, true, _, _⟩, ⟨6, true, _, _⟩, ⟨8, true, _, _⟩]) (M' := [⟨34, _, _⟩, ⟨51, _, _⟩]) rfl rfl ?_
    have hfin := lg_fin hFr.1 hx hy hn0 hR
    refine End.nxt (Tr.seq (Tr.rg ?_)); refine mv rfl rfl rfl ?_; refine tO (ok_lendV (n := 1) (fun ad cap => ct_trimmedV u ad cap) rfl uu (fun _ => ⟨by omega, by simp only [lenMax]; omega, by have := trim_len (xs := u); omega⟩)) rfl rfl ?_; refine TrL.frzQ 34 [174] ⟨rfl, trivial⟩ ⟨by have := trim_len (xs := u); omega, by simp only [lenMax]; omega⟩ rfl ?_; refine TrL.norm (S' := [⟨_, _, _, _⟩, ⟨_, _, _, _⟩, ⟨_, _, _, _⟩, ⟨_, _, _, _⟩, ⟨_, _, _, _⟩, ⟨_, _, _, _⟩, ⟨_, _, _, _⟩, ⟨_, _, _, _⟩, ⟨_, _, _, _⟩]) rfl rfl ?_; refine mv rfl rfl rfl ?_; refine tO (ok_call (fun hp => ct_short (u.take (trimL u).length) F (by rw [trim_pre]; exact hfin.2.2) (by have := trim_len (xs := u); rw [List.length_take]; omega) (by omega)) (.a rfl uu <| .a rfl uu <| .nil)) rfl rfl ?_
    refine mv rfl rfl rfl ?_; refine tO (ok_ext rfl uu rfl) rfl rfl ?_; refine tO (ok_ext rfl uu rfl) rfl rfl ?_; refine mw rfl rfl rfl ?_; refine mw rfl rfl rfl ?_; refine TrL.fin (End.nxt (Tr.seq (Tr.rg ?_))); refine mv rfl rfl rfl ?_; refine TrL.frz 51 [10, 179] ⟨rfl, rfl, trivial⟩ (by simp only [lenMax]; omega) rfl ?_; refine TrL.norm (S' := [⟨_, _, _, _⟩, ⟨_, _, _, _⟩, ⟨_, _, _, _⟩, ⟨_, _, _, _⟩, ⟨_, _, _, _⟩, ⟨_, _, _, _⟩, ⟨_, _, _, _⟩, ⟨_, _, _, _⟩, ⟨_, _, _, _⟩, ⟨_, _, _, _⟩, ⟨_, _, _, _⟩, ⟨_, _, _, _⟩, ⟨_, _, _, _⟩, ⟨_, _, _, _⟩, ⟨_, _, _, _⟩, ⟨_, _, _, _⟩, ⟨_, _, _, _⟩, ⟨_, _, _, _⟩, ⟨_, _, _, _⟩]) rfl rfl ?_
    refine tO (ok_call (fun hp => ct_trimmed _) (.a rfl uu <| .nil)) rfl rfl ?_; refine mv rfl rfl rfl ?_; refine mw rfl rfl rfl ?_; refine mw rfl rfl rfl ?_; refine TrL.fin (End.nxt (Tr.ret ?_)); exact Rts.res (fn := Tryz.f212) (ts := [4, 5]) rfl rfl (.r rfl hfin.1 <| .r rfl (by rw [trim_pre]; exact hfin.2.1) <| .nil)

end Go.Fl

/- Integers: quotient and rest with signs. Plain Lean, no program in sight. -/
namespace Go.Fl
theorem ovr {a b q r : Int} (hb : b ≠ 0) (h : a = b * q + r) (h0 : 0 ≤ r) (h1 : r < b.natAbs) : a / b = q ∧ a % b = r := by
  rcases Int.lt_or_gt_of_ne hb with hn | hp
  · have h2 := (Int.ediv_emod_unique (a := a) (b := -b) (q := -q) (r := r) (by omega)).2 ⟨by rw [Int.neg_mul_neg]; omega, h0, by omega⟩
    rw [Int.ediv_neg, Int.emod_neg] at h2
    exact ⟨by omega, h2.2⟩
  · exact (Int.ediv_emod_unique hp).2 ⟨by omega, h0, by omega⟩
abbrev sgd (a b : Int) : Prop := decide (a < 0) ≠ decide (b < 0)
theorem wh_sgn {a b z : Int} {Q : Nat} (hz : z = if sgd a b then -(Q : Int) else Q) : (decide ((0 : Int) < ((digN Q).length : Nat)) && decide (decide (a < 0) ≠ decide (b < 0)), digN Q) = wh z := by
  have hl := digN_len0 (n := Q)
  by_cases h : sgd a b
  · rw [if_pos h] at hz
    refine wh_mk ?_ (by rw [hz]; congr 1; omega)
    have h2 : decide (decide (a < 0) ≠ decide (b < 0)) = true := decide_eq_true h
    rw [h2, Bool.and_true, decide_eq_decide]
    omega
  · rw [if_neg h] at hz
    refine wh_mk ?_ (by rw [hz]; congr 1)
    have h2 : decide (decide (a < 0) ≠ decide (b < 0)) = false := decide_eq_false h
    rw [h2, Bool.and_false]
    exact (decide_eq_false (by omega)).symm
section
variable {a b : Int}
theorem nat_qr : (a.natAbs : Int) = b.natAbs * ((a.natAbs / b.natAbs : Nat) : Int) + ((a.natAbs % b.natAbs : Nat) : Int) := by
  have := Nat.div_add_mod a.natAbs b.natAbs
  rw [← Int.natCast_mul, ← Int.natCast_add, this]
theorem sgd_iff : sgd a b ↔ ((a < 0 ∧ ¬ b < 0) ∨ (¬ a < 0 ∧ b < 0)) := by
  unfold sgd
  by_cases h1 : a < 0 <;> by_cases h2 : b < 0 <;> simp [h1, h2]
theorem over_A (hb : b ≠ 0) (h : ¬ (a < 0 ∧ 0 < a.natAbs % b.natAbs)) : a / b = (if sgd a b then -((a.natAbs / b.natAbs : Nat) : Int) else ((a.natAbs / b.natAbs : Nat) : Int)) ∧ a % b = ((a.natAbs % b.natAbs : Nat) : Int) := by
  have e := nat_qr (a := a) (b := b)
  have hlt : a.natAbs % b.natAbs < b.natAbs := Nat.mod_lt _ (by omega)
  generalize hq : ((a.natAbs / b.natAbs : Nat) : Int) = q at *
  refine ovr hb ?_ (by omega) (by omega)
  have hB : (b.natAbs : Int) = if b < 0 then -b else b := by split <;> omega
  have hA : (a.natAbs : Int) = if a < 0 then -a else a := by split <;> omega
  by_cases h1 : a < 0 <;> by_cases h2 : b < 0
  · rw [if_pos h1] at hA; rw [if_pos h2] at hB
    rw [if_neg (by rw [sgd_iff]; omega)]
    rw [hA, hB, Int.neg_mul] at e; omega
  · rw [if_pos h1] at hA; rw [if_neg h2] at hB
    rw [if_pos (by rw [sgd_iff]; omega)]
    rw [hA, hB] at e; rw [Int.mul_neg]; omega
  · rw [if_neg h1] at hA; rw [if_pos h2] at hB
    rw [if_pos (by rw [sgd_iff]; omega)]
    rw [hA, hB, Int.neg_mul] at e; rw [Int.mul_neg]; omega
  · rw [if_neg h1] at hA; rw [if_neg h2] at hB
    rw [if_neg (by rw [sgd_iff]; omega)]
    rw [hA, hB] at e; omega
theorem over_B (hb : b ≠ 0) (ha : a < 0) (hr : 0 < a.natAbs % b.natAbs) : a / b = (if sgd a b then -((a.natAbs / b.natAbs + 1 : Nat) : Int) else ((a.natAbs / b.natAbs + 1 : Nat) : Int)) ∧ a % b = (b.natAbs : Int) + -((a.natAbs % b.natAbs : Nat) : Int) := by
  have e := nat_qr (a := a) (b := b)
  have hlt : a.natAbs % b.natAbs < b.natAbs := Nat.mod_lt _ (by omega)
  rw [Int.natCast_add]
  generalize hq : ((a.natAbs / b.natAbs : Nat) : Int) = q at *
  refine ovr hb ?_ (by omega) (by omega)
  have hB : (b.natAbs : Int) = if b < 0 then -b else b := by split <;> omega
  have hA : (a.natAbs : Int) = -a := by omega
  by_cases h2 : b < 0
  · rw [if_pos h2] at hB
    rw [if_neg (by rw [sgd_iff]; omega)]
    rw [hA, hB, Int.neg_mul] at e; rw [Int.mul_add]; omega
  · rw [if_neg h2] at hB
    rw [if_pos (by rw [sgd_iff]; omega)]
    rw [hA, hB] at e; rw [Int.mul_neg, Int.mul_add]; omega
end
theorem one_dig {n : Nat} (h : (digN n).length = 1) : nth (digN n) 0 = n := by
  have hv := digN_val n
  match hd : digN n, h with
  | [x], _ => rw [hd] at hv; simpa [val, nth] using hv
theorem sh_dig {m n : Nat} (h : (digN n).length = 1) : digN (val (digN m) / nth (digN n) 0).toNat = digN (m / n) ∧ val (digN m) % nth (digN n) 0 = ((m % n : Nat) : Int) := by
  rw [one_dig h, digN_val]
  exact ⟨by congr 1, by rw [Int.natCast_emod]⟩
theorem dl_mod {x y : Int} (hy : y ≠ 0) : dl (x % y) ≤ dl y := digN_len_le (by have := Int.emod_nonneg x hy; have := Int.emod_lt x hy; omega)
theorem cmpZ_neg {x y : Int} (h : cmpZ x y < 0) : x < y := by unfold cmpZ at h; split at h <;> (try split at h) <;> omega
theorem cmpZ_nn {x y : Int} (h : 0 ≤ cmpZ x y) : y ≤ x := by unfold cmpZ at h; split at h <;> (try split at h) <;> omega
theorem val_bd : ∀ {xs : List Int}, InI xs → -(10000000000000000000 * BP xs.length - 10000000000000000000) ≤ val xs ∧ val xs ≤ 10000000000000000000 * BP xs.length - 10000000000000000000
  | [], _ => by simp [val, BP]
  | x :: xs, h => by
    have h1 := h 0 (by simp)
    have ih := val_bd (xs := xs) fun i hi => h (i + 1) (by simpa using hi)
    have e : nth (x :: xs) 0 = x := rfl
    rw [e] at h1
    rw [val, List.length_cons, BP_succ]
    omega
theorem dl_val {xs : List Int} (h : InI xs) : dl (val xs) ≤ xs.length + 3 := by
  refine dl_le ?_
  have h1 := val_bd h
  have h2 := BP_pos xs.length
  rw [BP_succ, BP_succ, BP_succ]
  omega
theorem dl_int {n : Int} (h : -9223372036854775808 ≤ n ∧ n ≤ 9223372036854775807) : dl n ≤ 3 := dl_le (by simp [BP]; omega)
end Go.Fl

/- Contracts: integers of the package field (quotient and rest, what the package offers). -/
namespace Go.Fl
open Go Go.Proofs
open TrL renaming op → tO
open RunD renaming op → rO

set_option maxRecDepth 100000 in
set_option maxHeartbeats 2000000 in
theorem ct_wover (a b : Int) (hb0 : b ≠ 0) (ha : dl a ≤ 800000) (hb : dl b ≤ 800000) : Ct Tryz.prog 198 [kRd eW (wh a), kRd eW (wh b)] (kTup [kRd eW (wh (a / b)), kRd eW (wh (a % b))]) := by
  have hal : (digN a.natAbs).length = dl a := rfl
  have hbl : (digN b.natAbs).length = dl b := rfl
  have hbp := (dl_pos (z := b)).2 hb0
  have hlt : a.natAbs % b.natAbs < b.natAbs := Nat.mod_lt _ (by omega)
  have hql := digN_len_le (m := a.natAbs) (n := a.natAbs / b.natAbs) (Nat.div_le_self _ _)
  have hrl := digN_len_le (m := b.natAbs) (n := a.natAbs % b.natAbs) (by omega)
  have hrz := digN_len0 (n := a.natAbs % b.natAbs)
  have hdq : dl ((a.natAbs / b.natAbs : Nat) : Int) = (digN (a.natAbs / b.natAbs)).length := rfl
  have hdr : dl ((a.natAbs % b.natAbs : Nat) : Int) = (digN (a.natAbs % b.natAbs)).length := rfl
  have hdb : dl (b.natAbs : Int) = dl b := rfl
  have hd1 := dl_small (F := 1) (by omega) (by omega)
  refine Ct.mk Tryz.func198 rfl Tryz.ntmps198 rfl (fun w J => ?_); refine Tr.seq (Tr.rg ?_); refine TrL.new (ok_box 2 rfl uu rfl) rfl rfl rfl rfl ?_; refine TrL.new (ok_box 3 rfl uu rfl) rfl rfl rfl rfl ?_; refine TrL.new (ok_alloc 4) rfl rfl rfl rfl ?_; refine TrL.new (ok_alloc 5) rfl rfl rfl rfl ?_; refine TrL.fin (End.nxt ?_); refine Tr.meet2 (σ := Unit) [⟨2, true, _, _⟩, ⟨3, true, _, _⟩, ⟨4, true, _, _⟩, ⟨5, true, _, _⟩] [⟨2, _, _⟩, ⟨3, _, _⟩] (.k rfl rfl <| .k rfl rfl <| .k rfl rfl <| .k rfl rfl <| .nil) (.k rfl <| .k rfl <| .nil) (fun _ => []) (fun _ => [⟨4, [], cBlk [kB false, kRd (eL eI) (digN (a.natAbs / b.natAbs))]⟩, ⟨5, [], cBlk [kB false, kRd (eL eI) (digN (a.natAbs % b.natAbs))]⟩]) (fun _ => True) ?_ ?_
  · skip
    refine Tr.blk (Tr.seq (Tr.rg ?_)); refine tO (ok_fldO rfl uu) rfl rfl ?_; refine tO (ok_ldB rfl uu rfl) rfl rfl ?_; refine tO (ok_fldO rfl uu) rfl rfl ?_; refine tO (ok_ldB rfl uu rfl) rfl rfl ?_; refine tO (ok_call (fun hp => ct_sizes a.natAbs b.natAbs (by omega) (by omega)) (.a rfl uu <| .a rfl uu <| .nil)) rfl rfl ?_; refine tO (ok_lss rfl uu rfl uu) rfl rfl ?_; refine mw rfl rfl rfl ?_; refine TrL.fin (End.nxt ?_); refine Tr.cnd rfl ?_ ?_
    · intro h2
      try simp only [decide_eq_true_eq] at h2
      have hc := cmpZ_neg h2
      refine Tr.rg ?_; refine tO (ok_fldO rfl uu) rfl rfl ?_; refine tO (ok_ldB rfl uu rfl) rfl rfl ?_; refine tO (ok_fldO rfl uu) rfl rfl ?_; refine TrL.stB rfl rfl rfl rfl ?_; refine TrL.fin (End.blk ?_)
      exact End.cut (()) (by first | rfl | omega | simp <;> omega | assumption) (Ent.mk (.k rfl rfl <| .k rfl rfl <| .k rfl rfl <| .k rfl rfl <| .nil) (.conv (fun _ _ _ h => cBlk_n rfl (by rw [Nat.div_eq_of_lt (by omega)]; rfl) h) rfl <| .conv (fun _ _ _ h => cBlk_e rfl (by rw [Nat.mod_eq_of_lt (by omega)]) h) rfl <| .k rfl <| .k rfl <| .nil) rfl)
    · intro h2
      try simp only [decide_eq_false_iff_not, Int.not_lt] at h2
      have hc := cmpZ_nn h2
      refine Tr.seq (Tr.rg ?_); refine tO (ok_fldO rfl uu) rfl rfl ?_; refine tO (ok_ldB rfl uu rfl) rfl rfl ?_; refine tO (ok_lenJ rfl uu) rfl rfl ?_; refine tO (ok_eql rfl uu rfl uu) rfl rfl ?_; refine mw rfl rfl rfl ?_; refine TrL.fin (End.nxt ?_); refine Tr.cnd rfl ?_ ?_
      · intro h4
        try simp only [decide_eq_true_eq] at h4
        refine Tr.seq (Tr.rg ?_); refine mw rfl rfl rfl ?_; refine TrL.fin (End.nxt (Tr.seq ?_)); refine Tr.drawS 11 4 mixed (by kernel_rfl) ?_
        have hd0 := (digN_dg b.natAbs).at (i := 0) (by omega)
        have h1d := one_dig (n := b.natAbs) (by omega)
        refine RunS.opA (ok_fldO rfl uu) (by kernel_rfl) rfl rfl ?_; refine RunS.opA (ok_ldB rfl uu rfl) (by kernel_rfl) rfl rfl ?_; refine RunS.opA (ok_fldO rfl uu) (by kernel_rfl) rfl rfl ?_; refine RunS.opA (ok_ldB rfl uu rfl) (by kernel_rfl) rfl rfl ?_
        first | refine RunS.opA (ok_idxN rfl uu rfl uu rfl (fun _ => by omega)) (by kernel_rfl) rfl rfl ?_ | refine RunS.opA (ok_idxP rfl uu rfl uu rfl (fun _ => by omega)) (by kernel_rfl) rfl rfl ?_
        refine RunS.opA (ok_ldP rfl uu rfl) (by kernel_rfl) rfl rfl ?_; refine RunS.opA (ok_call (fun hp => ct_short (digN a.natAbs) (nth (digN b.natAbs) 0) (digN_dg _) (by omega) (by omega)) (.a rfl uu <| .a rfl uu <| .nil)) (by kernel_rfl) rfl rfl ?_; refine RunS.opA (ok_move rfl uu) (by kernel_rfl) rfl rfl ?_; refine RunS.opA (ok_ext rfl uu rfl) (by kernel_rfl) rfl rfl ?_; refine RunS.op (ok_ext rfl uu rfl) rfl rfl ?_; refine RunS.opA (ok_fldO rfl uu) (by kernel_rfl) rfl rfl ?_; refine RunS.z (st_B rfl rfl rfl) rfl rfl rfl ?_; refine mw rfl rfl rfl ?_; refine TrL.fin (End.nxt (Tr.rg ?_))
        have sh := sh_dig (m := a.natAbs) (n := b.natAbs) (by omega)
        refine mv rfl rfl rfl ?_; refine tO (ok_call (fun hp => ct_fsmall _ (by rw [sh.2]; omega)) (.a rfl uu <| .nil)) rfl rfl ?_; refine TrL.stB rfl rfl rfl rfl ?_; refine TrL.fin (End.blk ?_)
        exact End.cut (()) (by first | rfl | omega | simp <;> omega | assumption) (Ent.mk (.k rfl rfl <| .k rfl rfl <| .k rfl rfl <| .k rfl rfl <| .nil) (.conv (fun _ _ _ h => cBlk_e rfl sh.1 h) rfl <| .conv (fun _ _ _ h => cBlk_e (by rw [sh.2]; exact decide_eq_false (by omega)) (by rw [sh.2]; rfl) h) rfl <| .k rfl <| .k rfl <| .nil) rfl)
      · intro h4
        try simp only [decide_eq_false_iff_not] at h4
        refine Tr.rg ?_; refine tO (ok_fldO rfl uu) rfl rfl ?_; refine tO (ok_ldB rfl uu rfl) rfl rfl ?_; refine tO (ok_fldO rfl uu) rfl rfl ?_; refine tO (ok_ldB rfl uu rfl) rfl rfl ?_; refine tO (ok_call (fun hp => ct_flong a.natAbs b.natAbs (by omega) (by omega) (by omega)) (.a rfl uu <| .a rfl uu <| .nil)) rfl rfl ?_; refine mv rfl rfl rfl ?_; refine tO (ok_ext rfl uu rfl) rfl rfl ?_; refine tO (ok_ext rfl uu rfl) rfl rfl ?_; refine tO (ok_fldO rfl uu) rfl rfl ?_; refine TrL.stB rfl rfl rfl rfl ?_; refine tO (ok_fldO rfl uu) rfl rfl ?_; refine TrL.stB rfl rfl rfl rfl ?_
        refine TrL.fin (End.blk ?_)
        exact End.cut (()) (by first | rfl | omega | simp <;> omega | assumption) (Ent.mk (.k rfl rfl <| .k rfl rfl <| .k rfl rfl <| .k rfl rfl <| .nil) (.conv (fun _ _ _ h => cBlk_e rfl rfl h) rfl <| .conv (fun _ _ _ h => cBlk_e rfl rfl h) rfl <| .k rfl <| .k rfl <| .nil) rfl)
  · intro _ hM
    refine Tr.norm (S' := [⟨2, true, _, _⟩, ⟨3, true, _, _⟩, ⟨4, true, _, _⟩, ⟨5, true, _, _⟩]) (M' := [⟨4, _, _⟩, ⟨5, _, _⟩, ⟨2, _, _⟩, ⟨3, _, _⟩]) rfl rfl ?_; refine Tr.seq (Tr.seq (Tr.rg ?_)); refine tO (ok_fldO rfl uu) rfl rfl ?_; refine tO (ok_ldB rfl uu rfl) rfl rfl ?_; refine mv rfl rfl rfl ?_; refine TrL.gd rfl rfl rfl (ok_fldO rfl uu) rfl rfl ?_; refine TrL.gd rfl rfl rfl (ok_ldB rfl id rfl) rfl rfl ?_; refine TrL.gd rfl rfl rfl (ok_lenJ rfl id) rfl rfl ?_; refine TrL.gd rfl rfl rfl (ok_gtr rfl id rfl uu) rfl rfl ?_; refine tO (ok_and rfl uu rfl (fun hp h => gdT2 ((fun _ => rfl) hp) h)) rfl rfl ?_
    refine TrL.fin (End.nxt ?_); refine Tr.cnd rfl ?_ ?_
    · intro h8
      try simp only [decide_eq_true_eq, Bool.and_eq_true] at h8
      have hrp : 0 < a.natAbs % b.natAbs := by omega
      obtain ⟨o1, o2⟩ := over_B hb0 h8.1 hrp
      refine Tr.seq ?_; refine Tr.draw 2 mixed (by kernel_rfl) ?_; refine rO (ok_ldBS rfl uu) rfl rfl ?_; refine rO (ok_call (fun hp => ct_fsmall 1 (by omega)) (.a rfl uu <| .nil)) rfl rfl ?_; refine RunD.z ?_; refine tO (ok_call (fun hp => ct_wplus ((a.natAbs / b.natAbs : Nat) : Int) 1 (by omega) (by omega)) (.se rfl uu rfl wh_nat <| .a rfl uu <| .nil)) rfl rfl ?_; refine TrL.stB rfl rfl rfl rfl ?_; refine TrL.fin (End.nxt ?_); refine Tr.draw 5 mixed (by kernel_rfl) ?_; refine rO (ok_fldO rfl uu) rfl rfl ?_; refine rO (ok_ldB rfl uu rfl) rfl rfl ?_; refine rO (ok_build (fun hp => .cons rfl rfl rfl <| .nil)) rfl rfl ?_
      refine rO (ok_ldBS rfl uu) rfl rfl ?_; refine rO (ok_call (fun hp => ct_wminus ((a.natAbs % b.natAbs : Nat) : Int)) (.se rfl uu rfl wh_nat <| .nil)) rfl rfl ?_; refine RunD.z ?_; refine tO (ok_call (fun hp => ct_wplus (b.natAbs : Int) (-((a.natAbs % b.natAbs : Nat) : Int)) (by omega) (by rw [dl_neg]; omega)) (.se rfl uu rfl wh_nat <| .a rfl uu <| .nil)) rfl rfl ?_; refine TrL.stB rfl rfl rfl rfl ?_; refine TrL.fin (End.nxt (Tr.seq (Tr.rg ?_))); refine tO (ok_fldO rfl uu) rfl rfl ?_; refine tO (ok_ldB rfl uu rfl) rfl rfl ?_; refine tO (ok_lenJ rfl uu) rfl rfl ?_; refine tO (ok_gtr rfl uu rfl uu) rfl rfl ?_
      refine mv rfl rfl rfl ?_; refine TrL.gd rfl rfl rfl (ok_fldO rfl uu) rfl rfl ?_; refine TrL.gd rfl rfl rfl (ok_ldB rfl id rfl) rfl rfl ?_; refine TrL.gd rfl rfl rfl (ok_fldO rfl uu) rfl rfl ?_; refine TrL.gd rfl rfl rfl (ok_ldB rfl id rfl) rfl rfl ?_; refine TrL.gd rfl rfl rfl (ok_neqB rfl id rfl id) rfl rfl ?_; refine tO (ok_and rfl uu rfl (fun hp h => gdT2 ((fun _ => rfl) hp) h)) rfl rfl ?_; refine tO (ok_fldO rfl uu) rfl rfl ?_; refine TrL.stB rfl rfl rfl rfl ?_; refine TrL.fin (End.nxt (Tr.seq ?_)); refine Tr.drawS 2 4 mixed (by kernel_rfl) ?_; refine RunS.opA (ok_ldBS rfl uu) (by kernel_rfl) rfl rfl ?_
      refine RunS.op (ok_ldBS rfl uu) rfl rfl ?_; refine RunS.z (st_B rfl rfl rfl) rfl rfl rfl ?_; refine TrL.stB rfl rfl rfl rfl ?_; refine TrL.fin (End.nxt (Tr.ret ?_)); exact Rts.resC2 (fn := Tryz.f198) rfl rfl rfl (aggRd rfl (wh_sgn o1)) (aggRd rfl (by rw [o2]; rfl))
    · intro h8
      try simp only [decide_eq_true_eq, decide_eq_false_iff_not, Bool.and_eq_false_imp, Int.not_lt] at h8
      obtain ⟨o1, o2⟩ := over_A hb0 (fun hh => by have := h8 hh.1; omega)
      refine Tr.skip (End.nxt (Tr.seq (Tr.rg ?_))); refine tO (ok_fldO rfl uu) rfl rfl ?_; refine tO (ok_ldB rfl uu rfl) rfl rfl ?_; refine tO (ok_lenJ rfl uu) rfl rfl ?_; refine tO (ok_gtr rfl uu rfl uu) rfl rfl ?_; refine mv rfl rfl rfl ?_; refine TrL.gd rfl rfl rfl (ok_fldO rfl uu) rfl rfl ?_; refine TrL.gd rfl rfl rfl (ok_ldB rfl id rfl) rfl rfl ?_; refine TrL.gd rfl rfl rfl (ok_fldO rfl uu) rfl rfl ?_; refine TrL.gd rfl rfl rfl (ok_ldB rfl id rfl) rfl rfl ?_; refine TrL.gd rfl rfl rfl (ok_neqB rfl id rfl id) rfl rfl ?_; refine tO (ok_and rfl uu rfl (fun hp h => gdT2 ((fun _ => rfl) hp) h)) rfl rfl ?_
      refine tO (ok_fldO rfl uu) rfl rfl ?_; refine TrL.stB rfl rfl rfl rfl ?_; refine TrL.fin (End.nxt (Tr.seq ?_)); refine Tr.drawS 2 4 mixed (by kernel_rfl) ?_; refine RunS.opA (ok_ldBS rfl uu) (by kernel_rfl) rfl rfl ?_; refine RunS.op (ok_ldBS rfl uu) rfl rfl ?_; refine RunS.z (st_B rfl rfl rfl) rfl rfl rfl ?_; refine TrL.stB rfl rfl rfl rfl ?_; refine TrL.fin (End.nxt (Tr.ret ?_)); exact Rts.resC2 (fn := Tryz.f198) rfl rfl rfl (aggRd rfl (wh_sgn o1)) (aggRd rfl (by rw [o2]; exact wh_nat))

end Go.Fl

/- Integers: what the contracts of the reference's integers lean on. Plain Lean, no program in sight. -/
namespace Go.Fl
def sgL (xs : List Int) (neg : Bool) : List Int := if neg = true then (trimL xs).map (fun x => -x) else trimL xs
theorem sgL_t {xs : List Int} {neg : Bool} (h : neg = true) : ngT (trimL xs) (trimL xs).length = sgL xs neg := by unfold sgL; rw [if_pos h, ngT_all]
theorem sgL_f {xs : List Int} {neg : Bool} (h : neg = false) : trimL xs = sgL xs neg := by unfold sgL; rw [if_neg (by rw [h]; simp)]
theorem trim_nmz {xs : List Int} (h : Nm xs) : trimL xs = xs := by
  have h0 := h.dg.val0
  have e : val xs = ((val xs).toNat : Nat) := by omega
  rw [trim_dig h.dg e]
  exact (digN_of h e).symm
theorem trim_map : ∀ {xs : List Int}, trimL (xs.map fun x => -x) = (trimL xs).map fun x => -x
  | [] => rfl
  | x :: xs => by
    rw [List.map_cons, trimL, trimL, trim_map]
    by_cases h : trimL xs = [] ∧ x = 0
    · rw [if_pos h, if_pos ⟨by rw [h.1]; rfl, by omega⟩]; rfl
    · rw [if_neg h, if_neg (fun hh => h ⟨by simpa using hh.1, by omega⟩)]; rfl
theorem trim_lst (z : Int) : trimL (lstZ z) = lstZ z := by
  unfold lstZ
  split
  · rw [trim_map, trim_nmz (digN_nm _)]
  · exact trim_nmz (digN_nm _)
theorem lst_dig {z : Int} (h : 0 ≤ z) : lstZ z = digN z.toNat := by unfold lstZ; rw [if_neg (by omega)]; congr 1; omega
theorem lst_nat (n : Nat) : lstZ (n : Int) = digN n := lst_dig (by omega)
theorem lst_nm {z : Int} (h : 0 ≤ z) : Nm (lstZ z) := by rw [lst_dig h]; exact digN_nm _
theorem map_negneg : ∀ (xs : List Int), (xs.map fun x => -x).map (fun x => -x) = xs
  | [] => rfl
  | x :: xs => by rw [List.map_cons, List.map_cons, map_negneg, Int.neg_neg]
theorem sg_neg (z : Int) : sgL (lstZ z) true = lstZ (-z) := by
  unfold sgL
  rw [if_pos rfl, trim_lst]
  by_cases h : z = 0
  · subst h; rfl
  · unfold lstZ
    by_cases h1 : z < 0
    · rw [if_pos h1, if_neg (by omega), map_negneg, Int.natAbs_neg]
    · rw [if_neg h1, if_pos (by omega), Int.natAbs_neg]
theorem sg_size (z : Int) : sgL (lstZ z) (decide (z < 0)) = digN z.natAbs := by
  unfold sgL
  rw [trim_lst]
  unfold lstZ
  by_cases h : z < 0
  · rw [if_pos h, if_pos (by simpa using h), map_negneg]
  · rw [if_neg h, if_neg (by simpa using h)]
theorem lst_len0 {z : Int} : (lstZ z).length = 0 ↔ z = 0 := by rw [lst_len]; exact dl_zero
theorem lst_last {z : Int} (h : 0 < (lstZ z).length) : nth (lstZ z) (((lstZ z).length : Int) - 1).toNat < 0 ↔ z < 0 := by
  have e : (((lstZ z).length : Int) - 1).toNat = (lstZ z).length - 1 := by omega
  rw [e]
  rw [lst_len] at h ⊢
  have ht := (digN_nm z.natAbs).top (by exact h)
  unfold lstZ
  by_cases h1 : z < 0
  · rw [if_pos h1, nth_map (show dl z - 1 < (digN z.natAbs).length by unfold dl at h ⊢; omega)]
    unfold dl
    omega
  · rw [if_neg h1]
    unfold dl
    omega
theorem neg_of {z : Int} (h : 0 < (lstZ z).length → (nth (lstZ z) (((lstZ z).length : Int) - 1).toNat < 0 ↔ z < 0)) : (decide ((0 : Int) < ((lstZ z).length : Nat)) && decide (nth (lstZ z) (((lstZ z).length : Int) - 1).toNat < 0)) = decide (z < 0) := by
  by_cases h0 : 0 < (lstZ z).length
  · rw [decide_eq_true (show (0 : Int) < ((lstZ z).length : Nat) by omega), Bool.true_and, decide_eq_decide]
    exact h h0
  · have : z = 0 := lst_len0.1 (by omega)
    subst this
    rfl
theorem nm_pos {xs : List Int} {i : Nat} (hi : xs.length ≤ i) (h : (rdS xs i).2 = 0) : trimL (rdS xs i).1 = lstZ (val xs) := by
  have h1 := rd_pos hi h
  have h2 := rdS_pos hi h
  have h0 := (rdS_dg (xs := xs) (i := i)).val0
  rw [lst_dig (by omega)]
  exact trim_dig rdS_dg (by omega)
theorem nm_neg {xs ds : List Int} (h : (true, trimL ds) = wh (val xs)) : sgL ds true = lstZ (val xs) := by
  unfold wh at h
  have h1 : true = decide (val xs < 0) := congrArg Prod.fst h
  have h2 : trimL ds = digN (val xs).natAbs := congrArg Prod.snd h
  unfold sgL lstZ
  rw [if_pos rfl, if_pos (of_decide_eq_true h1.symm), h2]
theorem cm_tab {ds : List Int} {k : Nat} (h : k = ds.length) : tab k (cmD ds) = cmL ds k := by
  subst h
  unfold cmL
  exact tab_congr fun j hj => by rw [if_pos hj]
theorem nm_neg1 {xs : List Int} {i : Nat} (hi : xs.length ≤ i) (h : (rdS xs i).2 = -1) (hb : bw (rdS xs i).1 i ≠ 0) : sgL (tab i (cmD (rdS xs i).1)) true = lstZ (val xs) := by
  rw [cm_tab rdS_len.symm]; exact nm_neg (rd_neg1 hi h hb)
theorem nm_neg0 {xs : List Int} {i : Nat} (hi : xs.length ≤ i) (h : (rdS xs i).2 = -1) (hb : bw (rdS xs i).1 i = 0) : sgL (tab i (cmD (rdS xs i).1) ++ [1]) true = lstZ (val xs) := by
  rw [cm_tab rdS_len.symm]; exact nm_neg (rd_neg0 hi h hb)
def adX (xs ys : List Int) (n : Nat) : List Int := tab n fun i => xAt xs i + xAt ys i
theorem val_tab2 {f g : Nat → Int} : ∀ {n : Nat}, val (tab n fun i => f i + g i) = val (tab n f) + val (tab n g)
  | 0 => rfl
  | n + 1 => by
    rw [tab_succ, tab_succ, tab_succ, val_snoc, val_snoc, val_snoc, val_tab2, tab_len, tab_len, tab_len, Int.mul_add]; omega
theorem val_tabx {xs : List Int} : ∀ {n : Nat}, val (tab n (xAt xs)) = val (xs.take n)
  | 0 => rfl
  | n + 1 => by rw [tab_succ, val_snoc, tab_len, val_tabx, take_val]
theorem adX_val {xs ys : List Int} {n : Nat} (h1 : xs.length ≤ n) (h2 : ys.length ≤ n) : val (adX xs ys n) = val xs + val ys := by
  unfold adX
  rw [val_tab2, val_tabx, val_tabx, List.take_of_length_le h1, List.take_of_length_le h2]
theorem adX_in {x y : Int} {n : Nat} : InI (adX (lstZ x) (lstZ y) n) := fun i hi => by
  unfold adX at hi ⊢
  rw [tab_len] at hi
  rw [nth_tab hi]
  have b : ∀ z : Int, ∀ j, -100000000 < xAt (lstZ z) j ∧ xAt (lstZ z) j < 100000000 := fun z j => by
    unfold xAt
    split
    · rename_i hj
      rw [lst_len] at hj
      have := (digN_dg z.natAbs).at (i := j) hj
      unfold lstZ
      split
      · rw [nth_map hj]; omega
      · omega
    · omega
  have := b x i; have := b y i
  omega
theorem lst_bd {z : Int} {j : Nat} (hj : j < (lstZ z).length) : -100000000 < nth (lstZ z) j ∧ nth (lstZ z) j < 100000000 := by
  rw [lst_len] at hj
  have := (digN_dg z.natAbs).at (i := j) hj
  unfold lstZ
  split
  · rw [nth_map hj]; omega
  · omega
theorem mul_bd {x y : Int} (hx : -100000000 < x ∧ x < 100000000) (hy : -100000000 < y ∧ y < 100000000) : -10000000000000000 ≤ x * y ∧ x * y ≤ 10000000000000000 := by
  have h : (x * y).natAbs ≤ 100000000 * 100000000 := by rw [Int.natAbs_mul]; exact Nat.mul_le_mul (by omega) (by omega)
  omega
def mrow (xs ys : List Int) (i k : Nat) : List Int := List.replicate i 0 ++ tab k fun j => nth xs i * nth ys j
theorem mrow_len {xs ys : List Int} {i k : Nat} : (mrow xs ys i k).length = i + k := by unfold mrow; rw [List.length_append, List.length_replicate, tab_len]
theorem mrow_succ {xs ys : List Int} {i k : Nat} : mrow xs ys i k ++ [nth xs i * nth ys k] = mrow xs ys i (k + 1) := by unfold mrow; rw [tab_succ, List.append_assoc]
theorem mrow_zero {xs ys : List Int} {i : Nat} : List.replicate i 0 = mrow xs ys i 0 := by unfold mrow; simp [tab]
theorem val_mulc {c : Int} {ys : List Int} : ∀ {k : Nat}, k ≤ ys.length → val (tab k fun j => c * nth ys j) = c * val (ys.take k)
  | 0, _ => by simp [tab, val]
  | k + 1, h => by rw [tab_succ, val_snoc, tab_len, val_mulc (by omega), take_val, xAt_in (by omega), Int.mul_add, Int.mul_left_comm]
theorem mrow_val {xs ys : List Int} {i : Nat} : val (mrow xs ys i ys.length) = BP i * (nth xs i * val ys) := by
  unfold mrow
  rw [val_append, val_rep, List.length_replicate, val_mulc (Nat.le_refl _), List.take_length]; omega
theorem mrow_in {x y : Int} {i k : Nat} (hi : i < (lstZ x).length) (hk : k ≤ (lstZ y).length) : InI (mrow (lstZ x) (lstZ y) i k) := fun j hj => by
  rw [mrow_len] at hj
  have hm : nth (mrow (lstZ x) (lstZ y) i k) j ∈ mrow (lstZ x) (lstZ y) i k := nth_mem (by rw [mrow_len]; exact hj)
  unfold mrow at hm
  rcases List.mem_append.1 hm with h | h
  · have e := List.eq_of_mem_replicate h
    unfold mrow; omega
  · obtain ⟨q, hq, e⟩ := mem_nth h
    unfold mrow
    rw [tab_len] at hq
    rw [nth_tab hq] at e
    have := mul_bd (lst_bd hi) (lst_bd (z := y) (j := q) (by omega))
    omega
theorem mul_step {xs ys : List Int} {i : Nat} (h : i < xs.length) : val (xs.take i) * val ys + val (mrow xs ys i ys.length) = val (xs.take (i + 1)) * val ys := by
  rw [mrow_val, take_val, xAt_in h, Int.add_mul, Int.mul_assoc]
theorem less_len {a b : List Int} (ha : Nm a) (hb : Nm b) (h : a.length ≠ b.length) : decide ((a.length : Int) < (b.length : Nat)) = decide (val a < val b) := by
  rw [decide_eq_decide]
  rcases Nat.lt_or_gt_of_ne h with h1 | h1
  · have := cmp_len ha hb h1
    omega
  · have := cmp_len hb ha h1
    omega
theorem less_at {a b : List Int} (ha : Dg a) (hb : Dg b) (hl : a.length = b.length) {i : Nat} (hi : i < a.length) (h : ∀ j, i < j → j < a.length → nth a j = nth b j) (hne : nth a i ≠ nth b i) : decide (nth a i < nth b i) = decide (val a < val b) := by
  rw [decide_eq_decide]
  rcases Int.lt_or_gt_of_ne hne with h1 | h1
  · have := cmp_at ha hb hl hi h h1
    omega
  · have := cmp_at hb ha hl.symm (by omega) (fun j h2 h3 => (h j h2 (by omega)).symm) h1
    omega
theorem less_all {a b : List Int} (hl : a.length = b.length) (h : ∀ j, 0 ≤ j → j < a.length → nth a j = nth b j) : false = decide (val a < val b) := by
  rw [cmp_eq hl fun j hj => h j (Nat.zero_le _) hj]
  exact (decide_eq_false (Int.lt_irrefl _)).symm
theorem dv_trim {r x : Int} (hr : 0 ≤ r) (hx : 0 ≤ x ∧ x < 100000000) : trimL (x :: digN r.toNat) = digN (r * 100000000 + x).toNat := by
  refine trim_dig (fun y hy => ?_) ?_
  · rcases List.mem_cons.1 hy with rfl | hy
    · exact hx
    · exact digN_dg _ y hy
  · rw [val, digN_val]; omega
theorem dv_dl {T n : Int} (_ : 0 < n) : (T - n * (T / n)) = T % n := by have := Int.mul_ediv_add_emod T n; omega
theorem dv_low {T n m : Int} (hn : 0 < n) (h : ¬ T < n * m) : m ≤ T / n := Int.le_ediv_of_mul_le hn (by rw [Int.mul_comm]; omega)
theorem dv_high {T n m : Int} (hn : 0 < n) (h : T < n * m) : T / n ≤ m - 1 := by have := Int.ediv_lt_of_lt_mul hn (show T < m * n by rw [Int.mul_comm]; exact h); omega
def SmI (xs : List Int) : Prop := ∀ x ∈ xs, -100000000 < x ∧ x < 100000000
theorem Dg.sm {xs : List Int} (h : Dg xs) : SmI xs := fun x hx => by have := h x hx; omega
theorem lst_sm (z : Int) : SmI (lstZ z) := fun x hx => by
  obtain ⟨j, hj, rfl⟩ := mem_nth hx
  exact lst_bd hj
theorem cm_dg {ds : List Int} (h : Dg ds) {k : Nat} (hk : k = ds.length) : Dg (tab k (cmD ds)) := fun x hx => by
  obtain ⟨j, hj, rfl⟩ := mem_nth hx
  rw [tab_len] at hj
  rw [nth_tab hj]; exact cmD_rng h (by omega)
theorem sgL_end {xs : List Int} {neg : Bool} {i : Nat} (hi : i ≤ (trimL xs).length) (hg : 0 < i → neg = true) (h : i < (trimL xs).length → neg = false) : ngT (trimL xs) i = sgL xs neg := by
  cases hn : neg with
  | true =>
    have e : i = (trimL xs).length := by
      rcases Nat.lt_or_ge i (trimL xs).length with h1 | h1
      · rw [h h1] at hn; cases hn
      · omega
    rw [e]; exact sgL_t rfl
  | false =>
    have e : i = 0 := by
      rcases Nat.eq_zero_or_pos i with h1 | h1
      · exact h1
      · rw [hg h1] at hn; cases hn
    rw [e, ← ngT_zero]; exact sgL_f rfl
theorem InI.take {xs : List Int} (h : InI xs) (n : Nat) : InI (xs.take n) := fun j hj => by
  rw [List.length_take] at hj
  rw [nth_take (by omega)]; exact h j (by omega)
theorem dv_q {m n : Nat} {o : List Int} {R : Int} {i : Nat} (h : ShS (digN m) o (n : Int) (i + 1) R) (hi : i < (digN m).length) : 0 ≤ R * 100000000 + nth (digN m) i ∧ 0 ≤ (R * 100000000 + nth (digN m) i) / n ∧ (R * 100000000 + nth (digN m) i) / n < 100000000 := by
  have h1 := h.q (digN_dg m) hi
  have h2 := (digN_dg m).at hi
  have h3 := h.r0
  exact ⟨by omega, h1.1, h1.2.1⟩
theorem dv_fin {m n : Nat} {o : List Int} {R : Int} (h : ShS (digN m) o (n : Int) 0 R) : trimL o = digN (m / n) ∧ digN R.toNat = digN (m % n) := by
  have h1 := h.fin
  rw [digN_val] at h1
  refine ⟨h1.1, ?_⟩
  rw [h1.2]
  congr 1
theorem dv_dlT {T : Int} {n : Nat} (h : (T / n) < 100000000) (hn : 0 < n) (h0 : 0 ≤ T) : dl T ≤ dl (n : Int) + 1 := by
  refine dl_le ?_
  have h1 := dl_lt (n : Int)
  have h2 := Int.lt_mul_of_ediv_lt (show (0 : Int) < n by omega) h
  rw [BP_succ]
  have : (T.natAbs : Int) = T := by omega
  omega
theorem dv_dlR {R : Int} {n : Nat} (h : 0 ≤ R ∧ R < n) : dl R ≤ dl (n : Int) := digN_len_le (by omega)
theorem dlN {z : Int} (h : 0 ≤ z) : (digN z.toNat).length = dl z := by unfold dl; congr 2; omega
theorem gcd_step {x y : Nat} : Nat.gcd y (x % y) = Nat.gcd x y := by rw [Nat.gcd_comm, ← Nat.gcd_rec, Nat.gcd_comm]
theorem in1 {x : Int} (h : -9223372036854775808 ≤ x ∧ x ≤ 9223372036854775807) : InI [x] := fun j hj => by
  have e : j = 0 := by simpa using hj
  subst e
  exact h
theorem dlq1 {q : Nat} : (lstZ (val (lstZ (-val (digN q))) - val [1])).length ≤ dl (q : Int) + 2 := by
  rw [lst_len, lst_val, val_one, digN_val, Int.sub_eq_add_neg]
  have h1 := dl_add (-(q : Int)) (-1)
  rw [dl_neg] at h1
  have h2 : dl (-1) ≤ 1 := dl_small (F := 1) (by omega) (by omega)
  omega
theorem dlq2 {q : Nat} : (lstZ (-val (digN q))).length = dl (q : Int) := by rw [lst_len, digN_val, dl_neg]
end Go.Fl
