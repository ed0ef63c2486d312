/- Laws on walking typed knowledge through code, and contracts. -/
import Derived.Test.YthfaleobmefibaaGreatM4

/- Polynomials with integer coefficients (by coefficient functions): Gauss' lemma, common divisors and combinations. Plain Lean, no program in sight. -/
namespace Go.Fl
abbrev Pol := Nat → Int
def PDg (f : Pol) (d : Nat) : Prop := ∀ i, d < i → f i = 0
def cnv (f g : Pol) : Pol := fun k => sumTo (fun i => f i * g (k - i)) (k + 1)
theorem sumTo_nil {f : Nat → Int} : ∀ {k : Nat}, (∀ i, i < k → f i = 0) → sumTo f k = 0
 | 0, _ => rfl
 | k + 1, h => by rw [sumTo_succ, sumTo_nil fun i hi => h i zo, h k zo]; rfl
theorem sumTo_mulL {f : Nat → Int} {m : Int} : ∀ {k : Nat}, sumTo (fun i => m * f i) k = m * sumTo f k
 | 0 => by simp [sumTo]
 | k + 1 => by rw [sumTo_succ, sumTo_succ, sumTo_mulL, Int.mul_add]
theorem sumTo_dvd {f : Nat → Int} {m : Int} : ∀ {k : Nat}, (∀ i, i < k → m ∣ f i) → m ∣ sumTo f k
 | 0, _ => ⟨0, by simp [sumTo]⟩
 | k + 1, h => by rw [sumTo_succ]; exact Int.dvd_add (sumTo_dvd fun i hi => h i zo) (h k zo)
theorem sumTo_but {f : Nat → Int} {m : Int} {j : Nat} : ∀ {k : Nat}, j < k → (∀ i, i < k → i ≠ j → m ∣ f i) → ∃ q, sumTo f k = f j + m * q
 | 0, h, _ => absurd h zo
 | k + 1, h, hd => by
  by_cases e : j = k
  ·subst e
   obtain ⟨q, hq⟩ := sumTo_dvd (f := f) (m := m) (k := j) fun i hi => hd i zo zo
   exact ⟨q, by rw [sumTo_succ, hq]; omega⟩
  ·obtain ⟨q, hq⟩ := sumTo_but (f := f) (m := m) (k := k) zo fun i hi hne => hd i zo hne
   obtain ⟨r, hr⟩ := hd k zo (fun e' => e e'.symm)
   exact ⟨q + r, by rw [sumTo_succ, hq, hr, Int.mul_add]; omega⟩
theorem sumTo_one {f : Nat → Int} {j : Nat} : ∀ {k : Nat}, j < k → (∀ i, i < k → i ≠ j → f i = 0) → sumTo f k = f j
 | 0, h, _ => absurd h zo
 | k + 1, h, hd => by
  by_cases e : j = k
  ·subst e; rw [sumTo_succ, sumTo_nil fun i hi => hd i zo zo]; omega
  ·rw [sumTo_succ, sumTo_one zo fun i hi hne => hd i zo hne, hd k zo (fun e' => e e'.symm)]; omega
theorem cnv_top {f g : Pol} {a b : Nat} (hf : PDg f a) (hg : PDg g b) : cnv f g (a + b) = f a * g b := by
 unfold cnv
 rw [sumTo_one (j := a) zo]
 ·rw [Nat.add_sub_cancel_left]
 ·intro i hi hne
  by_cases h : a < i
  ·rw [hf i h, Int.zero_mul]
  ·rw [hg (a + b - i) zo, Int.mul_zero]
theorem cnv_dg {f g : Pol} {a b : Nat} (hf : PDg f a) (hg : PDg g b) : PDg (cnv f g) (a + b) := fun k hk => by
 unfold cnv
 refine sumTo_nil fun i _ => ?_
 by_cases h : a < i
 ·rw [hf i h, Int.zero_mul]
 ·rw [hg (k - i) zo, Int.mul_zero]
theorem cnv_mulL {f g : Pol} {m : Int} : cnv (fun i => m * f i) g = fun k => m * cnv f g k := by
 funext k; unfold cnv
 rw [← sumTo_mulL]
 exact sumTo_congr fun i _ => by rw [Int.mul_assoc]
theorem cnv_mulR {f g : Pol} {m : Int} : cnv f (fun i => m * g i) = fun k => m * cnv f g k := by
 funext k; unfold cnv
 rw [← sumTo_mulL]
 exact sumTo_congr fun i _ => by rw [Int.mul_left_comm]
theorem prime_ex {s : Nat} (h : 1 < s) : ∃ q, 1 < q ∧ q ∣ s ∧ ∀ a b : Int, (q : Int) ∣ a * b → (q : Int) ∣ a ∨ (q : Int) ∣ b := by
 have key : ∀ k, ∀ j, j + k = s → 1 < j → (∀ i, 1 < i → i < j → ¬ i ∣ s) → ∃ q, 1 < q ∧ q ∣ s ∧ ∀ i, 1 < i → i < q → ¬ i ∣ s := by
  intro k
  induction k with
  | zero => intro j h1 h2 h3; exact ⟨s, h, Nat.dvd_refl _, fun i a b => h3 i a zo⟩
  | succ k ih =>
   intro j h1 h2 h3
   by_cases hd : j ∣ s
   ·exact ⟨j, h2, hd, h3⟩
   ·refine ih (j + 1) zo zo fun i a b => ?_
    by_cases e : i = j
    ·subst e; exact hd
    ·exact h3 i a zo
 obtain ⟨q, h1, h2, h3⟩ := key (s - 2) 2 zo zo fun i a b => by omega
 refine ⟨q, h1, h2, fun a b hab => ?_⟩
 have hab' : q ∣ a.natAbs * b.natAbs := by
  have := Int.natAbs_dvd_natAbs.2 hab
  rwa [Int.natAbs_natCast, Int.natAbs_mul] at this
 have hg : Nat.gcd q a.natAbs ∣ q := Nat.gcd_dvd_left _ _
 by_cases e : Nat.gcd q a.natAbs = 1
 ·exact .inr (Int.ofNat_dvd_left.2 (Nat.Coprime.dvd_of_dvd_mul_left e hab'))
 ·have hpos : 0 < Nat.gcd q a.natAbs := Nat.gcd_pos_of_pos_left _ zo
  have hle := Nat.le_of_dvd zo hg
  have heq : Nat.gcd q a.natAbs = q := Classical.byContradiction fun hne => h3 _ zo zo (Nat.dvd_trans hg h2)
  exact .inl (Int.ofNat_dvd_left.2 (by rw [← heq]; exact Nat.gcd_dvd_right _ _))
theorem least_nat {P : Nat → Prop} (h : ∃ i, P i) : ∃ i, P i ∧ ∀ j, j < i → ¬ P j := by
 obtain ⟨i, hi⟩ := h
 induction i using Nat.strongRecOn with
 | _ i ih =>
  by_cases e : ∃ j, j < i ∧ P j
  ·obtain ⟨j, h1, h2⟩ := e; exact ih j h1 h2
  ·exact ⟨i, hi, fun j hj hp => e ⟨j, hj, hp⟩⟩
theorem gauss {q : Int} (hp : ∀ a b : Int, q ∣ a * b → q ∣ a ∨ q ∣ b) {r t : Pol} (h : ∀ k, q ∣ cnv r t k) : (∀ k, q ∣ r k) ∨ ∀ k, q ∣ t k := by
 refine Classical.byContradiction fun hn => ?_
 rw [not_or] at hn
 obtain ⟨i, hi, hi'⟩ := least_nat (Classical.not_forall.1 hn.1)
 obtain ⟨j, hj, hj'⟩ := least_nat (Classical.not_forall.1 hn.2)
 obtain ⟨m, hm⟩ := sumTo_but (f := fun k => r k * t (i + j - k)) (m := q) (j := i) (k := i + j + 1) zo fun k hk hne => by
  by_cases hlt : k < i
  ·exact Int.dvd_trans (Classical.not_not.1 (hi' k hlt)) (Int.dvd_mul_right _ _)
  ·exact Int.dvd_trans (Classical.not_not.1 (hj' (i + j - k) zo)) (Int.dvd_mul_left _ _)
 have h1 : q ∣ cnv r t (i + j) := h _
 have h2 : cnv r t (i + j) = r i * t (i + j - i) + q * m := hm
 rw [h2, Nat.add_sub_cancel_left] at h1
 have h3 : q ∣ r i * t j := (Int.dvd_add_left (Int.dvd_mul_right q m)).1 h1
 rcases hp _ _ h3 with h | h
 ·exact hi h
 ·exact hj h
theorem gauss_div {p : Pol} {a b : Nat} : ∀ (n : Nat) {s : Int} {r t : Pol}, s.natAbs = n → s ≠ 0 → PDg r a → r a ≠ 0 → PDg t b → (∀ k, s * p k = cnv r t k) → ∃ r' t', PDg r' a ∧ r' a ≠ 0 ∧ PDg t' b ∧ ((∀ k, p k = cnv r' t' k) ∨ ∀ k, -p k = cnv r' t' k) := by
 intro n
 induction n using Nat.strongRecOn with
 | _ n ih =>
  intro s r t hn hs hr hra ht h
  by_cases h1 : n = 1
  ·rcases (show s = 1 ∨ s = -1 by omega) with rfl | rfl
   ·exact ⟨r, t, hr, hra, ht, .inl fun k => by rw [← h k, Int.one_mul]⟩
   ·exact ⟨r, t, hr, hra, ht, .inr fun k => by rw [← h k, Int.neg_mul, Int.one_mul]⟩
  ·obtain ⟨q, q1, q2, q3⟩ := prime_ex (s := n) zo
   have hqs : (q : Int) ∣ s := Int.ofNat_dvd_left.2 (by rw [hn]; exact q2)
   obtain ⟨s', hs'⟩ := hqs
   have hq0 : (q : Int) ≠ 0 := by omega
   have hlt : s'.natAbs < n := by
    rw [← hn, hs', Int.natAbs_mul, Int.natAbs_natCast]
    have h0 : 0 < s'.natAbs := by
     refine Nat.pos_of_ne_zero fun e => hs ?_
     rw [hs', show s' = 0 by omega, Int.mul_zero]
    have := Nat.mul_lt_mul_of_pos_right q1 h0
    omega
   have hs0 : s' ≠ 0 := fun e => hs (by rw [hs', e, Int.mul_zero])
   have hall : ∀ k, (q : Int) ∣ cnv r t k := fun k => ⟨s' * p k, by rw [← h k, hs', Int.mul_assoc]⟩
   rcases gauss q3 hall with hd | hd
   ·have e : ∀ k, r k = (q : Int) * (r k / q) := fun k => (Int.mul_ediv_cancel' (hd k)).symm
    refine ih _ hlt (r := fun k => r k / q) (t := t) rfl hs0 (fun i hi => by show r i / _ = 0; rw [hr i hi, Int.zero_ediv]) (fun e0 => hra (by rw [e a, show r a / (q : Int) = 0 from e0, Int.mul_zero])) ht fun k => ?_
    have h2 : cnv r t k = (q : Int) * cnv (fun k => r k / q) t k := by
     have : r = fun k => (q : Int) * (r k / q) := funext e
     conv => lhs; rw [this, cnv_mulL]
    have h3 : (q : Int) * (s' * p k) = q * cnv (fun k => r k / q) t k := by rw [← h2, ← h k, hs', Int.mul_assoc]
    exact Int.eq_of_mul_eq_mul_left hq0 h3
   ·have e : ∀ k, t k = (q : Int) * (t k / q) := fun k => (Int.mul_ediv_cancel' (hd k)).symm
    refine ih _ hlt (r := r) (t := fun k => t k / q) rfl hs0 hr hra (fun i hi => by show t i / _ = 0; rw [ht i hi, Int.zero_ediv]) fun k => ?_
    have h2 : cnv r t k = (q : Int) * cnv r (fun k => t k / q) k := by
     have : t = fun k => (q : Int) * (t k / q) := funext e
     conv => lhs; rw [this, cnv_mulR]
    have h3 : (q : Int) * (s' * p k) = q * cnv r (fun k => t k / q) k := by rw [← h2, ← h k, hs', Int.mul_assoc]
    exact Int.eq_of_mul_eq_mul_left hq0 h3
end Go.Fl

/- Euclid's algorithm on polynomials, with multiples instead of fractions: a common divisor, or a combination that is a number. Plain Lean, no program in sight. -/
namespace Go.Fl
def shf (k : Nat) (g : Pol) : Pol := fun i => if k ≤ i then g (i - k) else 0
def stpP (a b : Int) (k : Nat) (f g : Pol) : Pol := fun i => a * f i - b * shf k g i
theorem sumTo_tail {f : Nat → Int} {m : Nat} : ∀ {j : Nat}, (∀ i, m ≤ i → i < m + j → f i = 0) → sumTo f (m + j) = sumTo f m
 | 0, _ => rfl
 | j + 1, h => by rw [show m + (j + 1) = m + j + 1 by omega, sumTo_succ, sumTo_tail fun i h1 h2 => h i h1 zo, h (m + j) zo zo]; omega
theorem sumTo_shift {f : Nat → Int} {k : Nat} : ∀ {j : Nat}, (∀ i, i < k → f i = 0) → sumTo f (k + j) = sumTo (fun i => f (k + i)) j
 | 0, h => by rw [Nat.add_zero, sumTo_nil h]; rfl
 | j + 1, h => by rw [show k + (j + 1) = k + j + 1 by omega, sumTo_succ, sumTo_succ, sumTo_shift h]
theorem cnv_shfL {f g : Pol} {k : Nat} : cnv (shf k f) g = shf k (cnv f g) := by
 funext i
 unfold cnv shf
 by_cases h : k ≤ i
 ·rw [if_pos h, show i + 1 = k + (i - k + 1) by omega, sumTo_shift]
  ·refine sumTo_congr fun j hj => ?_
   rw [if_pos zo, Nat.add_sub_cancel_left, show i - (k + j) = i - k - j by omega]
  ·intro j hj; rw [if_neg zo, Int.zero_mul]
 ·rw [if_neg h]
  exact sumTo_nil fun j hj => by rw [if_neg zo, Int.zero_mul]
theorem cnv_shfR {f g : Pol} {k : Nat} : cnv f (shf k g) = shf k (cnv f g) := by
 funext i
 unfold cnv shf
 by_cases h : k ≤ i
 ·rw [if_pos h, show i + 1 = (i - k + 1) + k by omega, sumTo_tail]
  ·refine sumTo_congr fun j hj => ?_
   rw [if_pos zo, show i - j - k = i - k - j by omega]
  ·intro j h1 h2; rw [if_neg zo, Int.mul_zero]
 ·rw [if_neg h]
  exact sumTo_nil fun j hj => by rw [if_neg zo, Int.mul_zero]
theorem cnv_subL {f g h : Pol} : cnv (fun i => f i - g i) h = fun i => cnv f h i - cnv g h i := by
 funext i; unfold cnv
 rw [← sumTo_sub]
 exact sumTo_congr fun j _ => by rw [Int.sub_mul]
theorem cnv_addL {f g h : Pol} : cnv (fun i => f i + g i) h = fun i => cnv f h i + cnv g h i := by
 funext i; unfold cnv
 rw [← sumTo_add]
 exact sumTo_congr fun j _ => by rw [Int.add_mul]
theorem cnv_addR {f g h : Pol} : cnv h (fun i => f i + g i) = fun i => cnv h f i + cnv h g i := by
 funext i; unfold cnv
 rw [← sumTo_add]
 exact sumTo_congr fun j _ => by rw [Int.mul_add]
theorem shf_mul {g : Pol} {k : Nat} {b : Int} : (fun i => b * shf k g i) = shf k fun i => b * g i := by
 funext i; unfold shf
 split
 ·rfl
 ·rw [Int.mul_zero]
theorem cnv_stp {a b : Int} {k : Nat} {f g h : Pol} : cnv (stpP a b k f g) h = stpP a b k (cnv f h) (cnv g h) := by
 unfold stpP
 rw [cnv_subL, cnv_mulL, cnv_mulL, cnv_shfL]
def oneP : Pol := fun i => if i = 0 then 1 else 0
def nilP : Pol := fun _ => 0
theorem cnv_one {f : Pol} : cnv oneP f = f := by
 funext k; unfold cnv
 rw [sumTo_one (j := 0) zo]
 ·unfold oneP; rw [if_pos rfl, Int.one_mul]; rfl
 ·intro i _ hne; unfold oneP; rw [if_neg hne, Int.zero_mul]
theorem cnv_nil {f : Pol} : cnv nilP f = nilP := by
 funext k; unfold cnv
 exact sumTo_nil fun i _ => by unfold nilP; rw [Int.zero_mul]
structure CmP (p c : Pol) (X E : Nat) (f u v : Pol) : Prop where
 eq : ∀ k, f k = cnv u p k + cnv v c k
 du : PDg u E
 dv : PDg v E
 bf : ∀ k, (f k).natAbs ≤ X
 bu : ∀ k, (u k).natAbs ≤ X
 bv : ∀ k, (v k).natAbs ≤ X
theorem stp_bd {a b : Int} {k X : Nat} {f g : Pol} (ha : a.natAbs ≤ X) (hb : b.natAbs ≤ X) (hf : ∀ i, (f i).natAbs ≤ X) (hg : ∀ i, (g i).natAbs ≤ X) (i : Nat) : (stpP a b k f g i).natAbs ≤ 2 * X * X := by
 have h1 : (a * f i).natAbs ≤ X * X := by rw [Int.natAbs_mul]; exact Nat.mul_le_mul ha (hf i)
 have h2 : (b * shf k g i).natAbs ≤ X * X := by
  rw [Int.natAbs_mul]
  refine Nat.mul_le_mul hb ?_
  unfold shf; split
  ·exact hg _
  ·exact Nat.zero_le _
 unfold stpP
 rw [show 2 * X * X = X * X + X * X by rw [Nat.mul_assoc, Nat.two_mul]]
 omega
theorem stp_dg {a b : Int} {k d e : Nat} {f g : Pol} (hf : PDg f d) (hg : PDg g e) (h1 : d ≤ e + k) : PDg (stpP a b k f g) (e + k) := fun i hi => by
 unfold stpP shf
 rw [hf i zo, if_pos zo, hg (i - k) zo]; omega
theorem CmP.stp {p c : Pol} {X E k : Nat} {f u v g u' v' : Pol} {a b : Int} (h : CmP p c X E f u v) (h' : CmP p c X E g u' v') (ha : a.natAbs ≤ X) (hb : b.natAbs ≤ X) : CmP p c (2 * X * X) (E + k) (stpP a b k f g) (stpP a b k u u') (stpP a b k v v') := by
 refine ⟨fun i => ?_, stp_dg h.du h'.du zo, stp_dg h.dv h'.dv zo, stp_bd ha hb h.bf h'.bf, stp_bd ha hb h.bu h'.bu, stp_bd ha hb h.bv h'.bv⟩
 rw [cnv_stp, cnv_stp]
 unfold stpP shf
 rw [h.eq i]
 split
 ·rw [h'.eq (i - k)]; simp only [Int.mul_add]; omega
 ·simp only [Int.mul_add, Int.mul_zero]; omega
def BkP (p f g : Pol) : Prop := ∃ s q1 q2 d, s ≠ 0 ∧ PDg q1 d ∧ PDg q2 d ∧ ∀ k, s * p k = cnv q1 f k + cnv q2 g k
theorem BkP.swap {p f g : Pol} (h : BkP p f g) : BkP p g f := by
 obtain ⟨s, q1, q2, d, h1, h2, h3, h4⟩ := h
 exact ⟨s, q2, q1, d, h1, h3, h2, fun k => by rw [h4 k, Int.add_comm]⟩
theorem BkP.stp {p f g : Pol} (h : BkP p f g) {a b : Int} {k : Nat} (ha : a ≠ 0) : BkP p (stpP a b k f g) g := by
 obtain ⟨s, q1, q2, d, h1, h2, h3, h4⟩ := h
 refine ⟨a * s, q1, fun i => shf k (fun i => b * q1 i) i + a * q2 i, d + k, Int.mul_ne_zero ha h1, fun i hi => h2 i zo, fun i hi => ?_, fun i => ?_⟩
 ·show (if k ≤ i then b * q1 (i - k) else 0) + a * q2 i = 0
  rw [if_pos zo, h2 (i - k) zo, h3 i zo]; omega
 ·have e1 : cnv q1 (stpP a b k f g) = fun i => a * cnv q1 f i - b * shf k (cnv q1 g) i := by
   have hs : stpP a b k f g = fun i => a * f i + (-b) * shf k g i := by funext i; unfold stpP; rw [Int.neg_mul]; omega
   rw [hs, cnv_addR, cnv_mulR, cnv_mulR, cnv_shfR]
   funext i
   show a * cnv q1 f i + -b * shf k (cnv q1 g) i = _
   rw [Int.neg_mul]; omega
  have e2 : cnv (fun i => shf k (fun i => b * q1 i) i + a * q2 i) g = fun i => b * shf k (cnv q1 g) i + a * cnv q2 g i := by
   rw [cnv_addL, cnv_mulL]
   funext i
   congr 1
   rw [cnv_shfL, cnv_mulL, ← shf_mul]
  rw [e1, e2, Int.mul_assoc, h4 i, Int.mul_add]
  simp only
  omega
theorem dg_ex {f : Pol} : ∀ {d : Nat}, PDg f d → (∀ i, f i = 0) ∨ ∃ e, e ≤ d ∧ PDg f e ∧ f e ≠ 0
 | 0, h => by
  by_cases e : f 0 = 0
  ·exact .inl fun i => by
    rcases Nat.eq_zero_or_pos i with rfl | hi
    ·exact e
    ·exact h i hi
  ·exact .inr ⟨0, Nat.le_refl _, h, e⟩
 | d + 1, h => by
  by_cases e : f (d + 1) = 0
  ·rcases dg_ex (d := d) (fun i hi => by
    by_cases e2 : i = d + 1
    ·subst e2; exact e
    ·exact h i zo) with h1 | ⟨q, h1, h2, h3⟩
   ·exact .inl h1
   ·exact .inr ⟨q, by omega, h2, h3⟩
  ·exact .inr ⟨d + 1, Nat.le_refl _, h, e⟩
def XI (X : Nat) : Nat → Nat
 | 0 => X
 | m + 1 => XI (2 * X * X) m
theorem XI_ge {X : Nat} (h : 1 ≤ X) : ∀ {m : Nat}, X ≤ XI X m
 | 0 => Nat.le_refl _
 | m + 1 => by
  have h1 : X * 1 ≤ X * X := Nat.mul_le_mul_left _ h
  have h2 : X ≤ 2 * X * X := by rw [Nat.mul_assoc]; omega
  exact Nat.le_trans h2 (XI_ge zo)
def Bez (p c : Pol) (X E : Nat) : Prop := ∃ D u v, D ≠ 0 ∧ (∀ k, cnv u p k + cnv v c k = if k = 0 then D else 0) ∧ PDg u E ∧ PDg v E ∧ (∀ k, (u k).natAbs ≤ X) ∧ ∀ k, (v k).natAbs ≤ X
theorem Bez.mono {p c : Pol} {X Y E F : Nat} (h : Bez p c X E) (h1 : X ≤ Y) (h2 : E ≤ F) : Bez p c Y F := by
 obtain ⟨D, u, v, a1, a2, a3, a4, a5, a6⟩ := h
 exact ⟨D, u, v, a1, a2, fun i hi => a3 i zo, fun i hi => a4 i zo, fun k => Nat.le_trans (a5 k) h1, fun k => Nat.le_trans (a6 k) h1⟩
theorem CmP.bez {p c : Pol} {X E : Nat} {f u v : Pol} (h : CmP p c X E f u v) (hd : PDg f 0) (h0 : f 0 ≠ 0) : Bez p c X E :=
 ⟨f 0, u, v, h0, fun k => by
  rw [← h.eq k]
  split
  ·rename_i e; rw [e]
  ·exact hd k zo, h.du, h.dv, h.bu, h.bv⟩
def DivP (p : Pol) (n : Nat) : Prop := ∃ s r t a b, s ≠ 0 ∧ 1 ≤ a ∧ a ≤ n - 1 ∧ PDg r a ∧ r a ≠ 0 ∧ PDg t b ∧ ∀ k, s * p k = cnv r t k
theorem cnv_comm {f g : Pol} : cnv f g = cnv g f := by
 funext k; unfold cnv
 have key : ∀ (h : Nat → Int) (m : Nat), sumTo h m = sumTo (fun i => h (m - 1 - i)) m := fun h m => by
  induction m generalizing h with
  | zero => rfl
  | succ m ih =>
   rw [sumTo_succ]
   have e := sumTo_shift (f := fun i => h (m - i)) (k := 1) (j := m)
   have e2 : sumTo (fun i => h (m - i)) (m + 1) = h m + sumTo (fun i => h (m - (1 + i))) m := by
    clear ih e
    have : ∀ j, sumTo (fun i => h (m - i)) (j + 1) = h m + sumTo (fun i => h (m - (1 + i))) j := by
     intro j
     induction j with
     | zero => show 0 + h (m - 0) = h m + 0; rw [Nat.sub_zero]; omega
     | succ j ihj => rw [sumTo_succ, ihj, sumTo_succ, show 1 + j = j + 1 by omega]; omega
    exact this m
   show sumTo h m + h m = sumTo (fun i => h (m + 1 - 1 - i)) (m + 1)
   rw [Nat.add_sub_cancel, e2, ih h, Int.add_comm]
   congr 1
   exact sumTo_congr fun i hi => by rw [show m - 1 - i = m - (1 + i) by omega]
 rw [key]
 refine sumTo_congr fun i hi => ?_
 rw [Nat.add_sub_cancel, show k - (k - i) = i by omega, Int.mul_comm]
theorem euc {p c : Pol} {n : Nat} : ∀ (m : Nat) {f g : Pol} {u v u' v' : Pol} {df dg X E : Nat}, 1 ≤ X → df + dg ≤ m → dg ≤ df → df ≤ 4 → dg ≤ n - 1 → PDg f df → f df ≠ 0 → PDg g dg → g dg ≠ 0 → CmP p c X E f u v → CmP p c X E g u' v' → BkP p f g → DivP p n ∨ Bez p c (XI X m) (E + 4 * m)
 | m, f, g, u, v, u', v', df, dg, X, E, hX, hm, hd, h4, hn, hf, hf0, hg, hg0, cf, cg, bk => by
  rcases Nat.eq_zero_or_pos dg with rfl | hpos
  ·exact .inr ((cg.bez hg hg0).mono (XI_ge hX) zo)
  ·obtain ⟨m, rfl⟩ : ∃ q, m = q + 1 := ⟨m - 1, by omega⟩
   have c2 := cf.stp (k := df - dg) cg (a := g dg) (b := f df) (cg.bf _) (cf.bf _)
   have b2 := bk.stp (a := g dg) (b := f df) (k := df - dg) hg0
   have hX2 : 1 ≤ 2 * X * X := by
    have : X * 1 ≤ X * X := Nat.mul_le_mul_left _ hX
    rw [Nat.mul_assoc]; omega
   have hXX : X ≤ 2 * X * X := by
    have : X * 1 ≤ X * X := Nat.mul_le_mul_left _ hX
    rw [Nat.mul_assoc]; omega
   have cg2 : CmP p c (2 * X * X) (E + (df - dg)) g u' v' := ⟨cg.eq, fun i hi => cg.du i zo, fun i hi => cg.dv i zo, fun k => Nat.le_trans (cg.bf k) hXX, fun k => Nat.le_trans (cg.bu k) hXX, fun k => Nat.le_trans (cg.bv k) hXX⟩
   have hdg : PDg (stpP (g dg) (f df) (df - dg) f g) (df - 1) := fun i hi => by
    unfold stpP shf
    by_cases e : i = df
    ·subst e
     rw [if_pos zo, show i - (i - dg) = dg by omega, Int.mul_comm]; omega
    ·rw [hf i zo, if_pos (show df - dg ≤ i by omega), hg (i - (df - dg)) zo]; omega
   rcases dg_ex hdg with hz | ⟨e, e1, e2, e3⟩
   ·-- nothing is left: g divides
    obtain ⟨s, q1, q2, d, s1, s2, s3, s4⟩ := b2
    refine .inl ⟨s, g, q2, dg, d, s1, hpos, hn, hg, hg0, s3, fun k => ?_⟩
    rw [s4 k, cnv_comm (f := q1), show stpP (g dg) (f df) (df - dg) f g = nilP from funext hz, cnv_nil, cnv_comm]
    show 0 + _ = _; omega
   ·have hfin : DivP p n ∨ Bez p c (XI (2 * X * X) m) (E + (df - dg) + 4 * m) := by
     by_cases hle : dg ≤ e
     ·exact euc m hX2 zo hle zo hn e2 e3 hg hg0 c2 cg2 b2
     ·exact euc m hX2 zo zo zo zo hg hg0 e2 e3 cg2 c2 b2.swap
    exact hfin.imp id fun h => h.mono (Nat.le_refl _) zo
theorem bezout {p c : Pol} {n X : Nat} (hn : 1 ≤ n) (h4 : n ≤ 4) (hX : 1 ≤ X) (hp : PDg p n) (hp1 : p n = 1) (hc : PDg c (n - 1)) (hc0 : ¬ ∀ i, c i = 0) (bp : ∀ k, (p k).natAbs ≤ X) (bc : ∀ k, (c k).natAbs ≤ X) : DivP p n ∨ Bez p c (XI X 7) 28 := by
 obtain ⟨e, e1, e2, e3⟩ := (dg_ex hc).resolve_left hc0
 have h1 : ∀ k, (oneP k).natAbs ≤ X := fun k => by unfold oneP; split <;> simp <;> omega
 have h2 : ∀ k, (nilP k).natAbs ≤ X := fun k => by unfold nilP; simp
 have o1 : PDg oneP 0 := fun i hi => by unfold oneP; rw [if_neg zo]
 have o2 : PDg nilP 0 := fun i _ => rfl
 have cp : CmP p c X 0 p oneP nilP := ⟨fun k => by rw [cnv_one, cnv_nil]; show p k = p k + 0; omega, o1, o2, bp, h1, h2⟩
 have cc : CmP p c X 0 c nilP oneP := ⟨fun k => by rw [cnv_one, cnv_nil]; show c k = 0 + c k; omega, o2, o1, bc, h2, h1⟩
 have bk : BkP p p c := ⟨1, oneP, nilP, 0, by omega, o1, o2, fun k => by rw [cnv_one, cnv_nil]; show 1 * p k = p k + 0; omega⟩
 have := euc 7 (n := n) hX (show n + e ≤ 7 by omega) zo h4 e1 hp (by rw [hp1]; omega) e2 e3 cp cc bk
 simpa using this
end Go.Fl

/- Divisors of small degrees; homogeneous values. Plain Lean, no program in sight. -/
namespace Go.Fl
def evP (p : Pol) (n : Nat) (x : Int) : Int := sumTo (fun i => p i * x ^ i) (n + 1)
def RedP (p : Pol) (n : Nat) : Prop := (∃ x, evP p n x = 0) ∨ (n = 4 ∧ ∃ a b c d : Int, p 3 = a + c ∧ p 2 = b + d + a * c ∧ p 1 = a * d + b * c ∧ p 0 = b * d)
theorem lin_root {p r t : Pol} {n : Nat} (hn : 1 ≤ n) (hn4 : n ≤ 4) (hr : PDg r 1) (ht : PDg t (n - 1)) (h : ∀ k, p k = cnv r t k) (he : r 1 * r 1 = 1) : ∃ x, evP p n x = 0 := by
 refine ⟨-(r 0 * r 1), ?_⟩
 have e0 : p 0 = r 0 * t 0 := by rw [h]; simp [cnv, sumTo]
 have e1 : p 1 = r 0 * t 1 + r 1 * t 0 := by rw [h]; simp [cnv, sumTo]
 have h2 : r 2 = 0 := hr 2 zo
 have h3 : r 3 = 0 := hr 3 zo
 have h4 : r 4 = 0 := hr 4 zo
 have e2 : p 2 = r 0 * t 2 + r 1 * t 1 := by rw [h]; simp [cnv, sumTo, h2]
 have e3 : p 3 = r 0 * t 3 + r 1 * t 2 := by rw [h]; simp [cnv, sumTo, h2, h3]
 have e4 : p 4 = r 0 * t 4 + r 1 * t 3 := by rw [h]; simp [cnv, sumTo, h2, h3, h4]
 rcases (show n = 1 ∨ n = 2 ∨ n = 3 ∨ n = 4 by omega) with rfl | rfl | rfl | rfl
 ·have z1 : t 1 = 0 := ht 1 zo
  simp only [evP, sumTo, e0, e1, z1]; grind
 ·have z2 : t 2 = 0 := ht 2 zo
  simp only [evP, sumTo, e0, e1, e2, z2]; grind
 ·have z3 : t 3 = 0 := ht 3 zo
  simp only [evP, sumTo, e0, e1, e2, e3, z3]; grind
 ·have z4 : t 4 = 0 := ht 4 zo
  simp only [evP, sumTo, e0, e1, e2, e3, e4, z4]; grind
theorem unit_sq {a b : Int} (h : a * b = 1) : a * a = 1 ∧ a = b := by
 have h1 : a.natAbs * b.natAbs = 1 := by rw [← Int.natAbs_mul, h]; rfl
 have h2 : a.natAbs = 1 := Nat.eq_one_of_mul_eq_one_right h1
 rcases (show a = 1 ∨ a = -1 by omega) with rfl | rfl
 ·exact ⟨rfl, by omega⟩
 ·exact ⟨rfl, by omega⟩
theorem quad_red {p r t : Pol} (hr : PDg r 2) (ht : PDg t 2) (h : ∀ k, p k = cnv r t k) (he : r 2 * t 2 = 1) : ∃ a b c d : Int, p 3 = a + c ∧ p 2 = b + d + a * c ∧ p 1 = a * d + b * c ∧ p 0 = b * d := by
 obtain ⟨u1, u2⟩ := unit_sq he
 have h3 : r 3 = 0 := hr 3 zo
 have g3 : t 3 = 0 := ht 3 zo
 have e0 : p 0 = r 0 * t 0 := by rw [h]; simp [cnv, sumTo]
 have e1 : p 1 = r 0 * t 1 + r 1 * t 0 := by rw [h]; simp [cnv, sumTo]
 have e2 : p 2 = r 0 * t 2 + r 1 * t 1 + r 2 * t 0 := by rw [h]; simp [cnv, sumTo]
 have e3 : p 3 = r 1 * t 2 + r 2 * t 1 := by rw [h]; simp [cnv, sumTo, h3, g3]
 refine ⟨r 1 * r 2, r 0 * r 2, t 1 * r 2, t 0 * r 2, ?_, ?_, ?_, ?_⟩ <;> grind
theorem div_red {p : Pol} {n : Nat} (h2 : 2 ≤ n) (h4 : n ≤ 4) (hp : PDg p n) (hp1 : p n = 1) (h : DivP p n) : RedP p n := by
 obtain ⟨s, r, t, a, b, h1, a1, a2, hr, hra, ht, hst⟩ := h
 obtain ⟨r', t', d1, d0, d2, d3⟩ := gauss_div _ rfl h1 hr hra ht hst
 obtain ⟨t2, f2, f3⟩ : ∃ t2, PDg t2 b ∧ ∀ k, p k = cnv r' t2 k := by
  rcases d3 with d3 | d3
  ·exact ⟨t', d2, d3⟩
  ·refine ⟨fun i => -1 * t' i, fun i hi => by show -1 * t' i = 0; rw [d2 i hi]; rfl, fun k => ?_⟩
   rw [cnv_mulR]
   show p k = -1 * cnv r' t' k
   rw [← d3 k]; omega
 obtain ⟨e, e1, e2, e3⟩ := (dg_ex f2).resolve_left fun hz => by
  have : p n = 0 := by rw [f3 n, show t2 = nilP from funext hz, cnv_comm, cnv_nil]; rfl
  omega
 have htop : p (a + e) = r' a * t2 e := by rw [f3, cnv_top d1 e2]
 have hne : p (a + e) ≠ 0 := by rw [htop]; exact Int.mul_ne_zero d0 e3
 have hle : a + e ≤ n := Nat.le_of_not_lt fun hh => hne (hp _ hh)
 have heq : a + e = n := Classical.byContradiction fun hh => by
  have : p n = 0 := by rw [f3]; exact cnv_dg d1 e2 n zo
  omega
 have hu : r' a * t2 e = 1 := by rw [← htop, heq, hp1]
 have hu' := unit_sq hu
 have hv' := unit_sq ((Int.mul_comm _ _).trans hu)
 by_cases c1 : a = 1
 ·subst c1
  exact .inl (lin_root zo h4 d1 (by rw [show n - 1 = e by omega]; exact e2) f3 hu'.1)
 ·by_cases c2 : e = 1
  ·subst c2
   exact .inl (lin_root zo h4 e2 (by rw [show n - 1 = a by omega]; exact d1) (fun k => by rw [f3, cnv_comm]) hv'.1)
  ·obtain rfl : a = 2 := by omega
   obtain rfl : e = 2 := by omega
   exact .inr ⟨by omega, quad_red d1 e2 f3 hu⟩
def hm (f : Pol) (m : Nat) (a b : Int) : Int := sumTo (fun i => f i * a ^ i * b ^ (m - i)) (m + 1)
theorem hm_add {f g : Pol} {m : Nat} {a b : Int} : hm (fun i => f i + g i) m a b = hm f m a b + hm g m a b := by
 unfold hm; rw [← sumTo_add]
 exact sumTo_congr fun i _ => by rw [Int.add_mul, Int.add_mul]
theorem hm_mul {f : Pol} {m : Nat} {a b c : Int} : hm (fun i => c * f i) m a b = c * hm f m a b := by
 unfold hm; rw [← sumTo_mulL]
 exact sumTo_congr fun i _ => by rw [Int.mul_assoc, Int.mul_assoc, Int.mul_assoc]
theorem hm_pad {f : Pol} {m j : Nat} {a b : Int} (h : PDg f m) : hm f (m + j) a b = b ^ j * hm f m a b := by
 unfold hm
 rw [show m + j + 1 = m + 1 + j by omega, sumTo_tail fun i h1 _ => by rw [h i zo, Int.zero_mul, Int.zero_mul], ← sumTo_mulL]
 refine sumTo_congr fun i hi => ?_
 rw [show m + j - i = j + (m - i) by omega, Int.pow_add]
 simp only [Int.mul_assoc, Int.mul_left_comm]
def tlP (f : Pol) : Pol := fun i => f (i + 1)
theorem hm_cons {f : Pol} {m : Nat} {a b : Int} : hm f (m + 1) a b = f 0 * b ^ (m + 1) + a * hm (tlP f) m a b := by
 unfold hm
 rw [show m + 1 + 1 = 1 + (m + 1) by omega]
 have key : ∀ (g : Nat → Int) (k : Nat), sumTo g (1 + k) = g 0 + sumTo (fun i => g (1 + i)) k := fun g k => by
  induction k with
  | zero => show 0 + g 0 = g 0 + 0; omega
  | succ k ih => rw [show 1 + (k + 1) = 1 + k + 1 by omega, sumTo_succ, ih, sumTo_succ]; omega
 rw [key, ← sumTo_mulL]
 congr 1
 ·rw [Int.pow_zero, Int.mul_one, Nat.sub_zero]
 ·refine sumTo_congr fun i hi => ?_
  rw [show m + 1 - (1 + i) = m - i by omega, show 1 + i = i + 1 by omega, Int.pow_succ]
  unfold tlP
  simp only [Int.mul_assoc, Int.mul_left_comm, Int.mul_comm]
theorem cnv_cons {f g : Pol} : cnv f g = fun k => f 0 * g k + shf 1 (cnv (tlP f) g) k := by
 funext k
 unfold cnv shf
 have key : ∀ (h : Nat → Int) (k : Nat), sumTo h (1 + k) = h 0 + sumTo (fun i => h (1 + i)) k := fun h k => by
  induction k with
  | zero => show 0 + h 0 = h 0 + 0; omega
  | succ k ih => rw [show 1 + (k + 1) = 1 + k + 1 by omega, sumTo_succ, ih, sumTo_succ]; omega
 rw [show k + 1 = 1 + k by omega, key, Nat.sub_zero]
 congr 1
 by_cases h : 1 ≤ k
 ·rw [if_pos h]
  show _ = sumTo (fun i => tlP f i * g (k - 1 - i)) (k - 1 + 1)
  rw [show k - 1 + 1 = k by omega]
  refine sumTo_congr fun i hi => ?_
  unfold tlP
  rw [show 1 + i = i + 1 by omega, show k - (i + 1) = k - 1 - i by omega]
 ·rw [if_neg h, show k = 0 by omega]; rfl
theorem hm_shf {f : Pol} {m : Nat} {a b : Int} : hm (shf 1 f) (m + 1) a b = a * hm f m a b := by
 rw [hm_cons]
 have e : tlP (shf 1 f) = f := by funext i; unfold tlP shf; rw [if_pos zo, Nat.add_sub_cancel]
 rw [e]
 unfold shf
 rw [if_neg zo]; omega
theorem tlP_dg {f : Pol} {m : Nat} (h : PDg f (m + 1)) : PDg (tlP f) m := fun i hi => h (i + 1) zo
theorem hm_cnv {g : Pol} {l : Nat} {a b : Int} (hg : PDg g l) : ∀ {m : Nat} {f : Pol}, PDg f m → hm (cnv f g) (m + l) a b = hm f m a b * hm g l a b
 | 0, f, hf => by
  have e : cnv f g = fun k => f 0 * g k := by
   rw [cnv_cons]
   funext k
   have : tlP f = nilP := funext fun i => hf (i + 1) zo
   rw [this, cnv_nil]
   unfold shf nilP
   split <;> omega
  rw [e, Nat.zero_add, hm_mul]
  congr 1
  unfold hm; simp [sumTo]
 | m + 1, f, hf => by
  rw [cnv_cons, show m + 1 + l = m + l + 1 by omega]
  have e1 : hm (fun k => f 0 * g k + shf 1 (cnv (tlP f) g) k) (m + l + 1) a b = f 0 * hm g (m + l + 1) a b + a * hm (cnv (tlP f) g) (m + l) a b := by
   rw [hm_add, hm_mul, hm_shf]
  rw [e1, hm_cnv hg (tlP_dg hf), show m + l + 1 = l + (m + 1) by omega, hm_pad hg, hm_cons]
  rw [Int.add_mul]
  simp only [Int.mul_assoc, Int.mul_left_comm, Int.mul_comm]
def lP (cs : List Int) : Pol := fun i => if i < cs.length then nth cs i else 0
theorem lP_dg {cs : List Int} : PDg (lP cs) (cs.length - 1) := fun i hi => by unfold lP; rw [if_neg zo]
theorem lP_cons {c : Int} {cs : List Int} : tlP (lP (c :: cs)) = lP cs := by
 funext i; unfold tlP lP
 by_cases h : i < cs.length
 ·rw [if_pos (by simpa using h), if_pos h]; rfl
 ·rw [if_neg (by simpa using h), if_neg h]
theorem hvP_hm {a b : Int} : ∀ {cs : List Int}, (hvP a b cs).2 = b ^ cs.length ∧ (hvP a b cs).1 = hm (lP cs) (cs.length - 1) a b
 | [] => ⟨by simp [hvP], by simp [hvP, hm, sumTo, lP]⟩
 | [c] => ⟨by simp [hvP, Int.pow_succ], by simp [hvP, hm, sumTo, lP, nth]⟩
 | c :: d :: cs => by
  obtain ⟨h1, h2⟩ := hvP_hm (a := a) (b := b) (cs := d :: cs)
  rw [hvP]
  refine ⟨by simp only; rw [h1, List.length_cons (a := c), Int.pow_succ], ?_⟩
  simp only
  rw [h1, h2, List.length_cons (a := c), Nat.add_sub_cancel, show (d :: cs).length = (d :: cs).length - 1 + 1 by simp, hm_cons, lP_cons, Nat.add_sub_cancel]
  have e0 : lP (c :: d :: cs) 0 = c := by unfold lP; simp [nth]
  rw [e0, Int.mul_comm a]; omega
theorem no_root {p : Pol} {n : Nat} (h2 : 2 ≤ n) (h4 : n ≤ 4) (hp : PDg p n) (hp1 : p n = 1) (hred : ¬ RedP p n) {a b : Int} (hb : 0 < b) : hm p n a b ≠ 0 := fun h0 => by
 have hc : PDg (fun i => if i = 0 then -a else if i = 1 then b else 0) (n - 1) := fun i hi => by
  show (if i = 0 then -a else if i = 1 then b else 0) = 0
  rw [if_neg zo, if_neg zo]
 obtain ⟨X, hX, hbp, hbc⟩ : ∃ X : Nat, 1 ≤ X ∧ (∀ k, (p k).natAbs ≤ X) ∧ ∀ k, ((fun i => if i = 0 then -a else if i = 1 then b else 0 : Pol) k).natAbs ≤ X := by
  refine ⟨1 + (p 0).natAbs + (p 1).natAbs + (p 2).natAbs + (p 3).natAbs + (p 4).natAbs + a.natAbs + b.natAbs, by omega, fun k => ?_, fun k => ?_⟩
  ·by_cases h : k ≤ 4
   ·rcases (show k = 0 ∨ k = 1 ∨ k = 2 ∨ k = 3 ∨ k = 4 by omega) with rfl | rfl | rfl | rfl | rfl <;> omega
   ·rw [hp k zo]; simp
  ·show (if k = 0 then -a else if k = 1 then b else 0 : Int).natAbs ≤ _
   split
   ·omega
   ·split
    ·omega
    ·simp
 rcases bezout zo h4 hX hp hp1 hc (fun hz => by have := hz 1; simp at this; omega) hbp hbc with h | ⟨D, u, v, d0, h1, hu, hv, _, _⟩
 ·exact hred (div_red h2 h4 hp hp1 h)
 ·have e1 := hm_cnv (a := a) (b := b) hp hu
  have e2 := hm_cnv (a := a) (b := b) (l := n) (fun i hi => hc i zo) hv
  have e3 : hm (fun i => if i = 0 then -a else if i = 1 then b else 0) n a b = 0 := by
   obtain ⟨q, rfl⟩ : ∃ q, n = q + 1 := ⟨n - 1, by omega⟩
   rw [show q + 1 = 1 + q by omega, hm_pad (m := 1) (fun i hi => by show (if i = 0 then -a else if i = 1 then b else 0) = 0; rw [if_neg zo, if_neg zo])]
   have : hm (fun i => if i = 0 then -a else if i = 1 then b else 0) 1 a b = 0 := by
    simp [hm, sumTo, Int.pow_succ]; rw [Int.neg_mul, Int.mul_comm a]; omega
   rw [this, Int.mul_zero]
  rw [h0, Int.mul_zero] at e1
  rw [e3, Int.mul_zero] at e2
  have e4 : hm (fun k => cnv u p k + cnv v (fun i => if i = 0 then -a else if i = 1 then b else 0) k) (28 + n) a b = 0 := by rw [hm_add, e1, e2]; rfl
  rw [show (fun k => cnv u p k + cnv v (fun i => if i = 0 then -a else if i = 1 then b else 0) k) = fun k => if k = 0 then D else 0 from funext h1] at e4
  have e5 : hm (fun k => if k = 0 then D else 0) (28 + n) a b = D * b ^ (28 + n) := by
   have := hm_pad (f := fun k => if k = 0 then D else 0) (m := 0) (j := 28 + n) (a := a) (b := b) (fun i hi => by show (if i = 0 then D else 0) = 0; rw [if_neg zo])
   rw [Nat.zero_add] at this
   rw [this, Int.mul_comm]
   congr 1
   simp [hm, sumTo]
  rw [e5] at e4
  have := Int.pow_pos (n := b) (m := 28 + n) hb
  exact absurd e4 (Int.mul_ne_zero d0 zo)
end Go.Fl

/- Halving ends: a number other than a fraction is told from 0 after so many halvings. Plain Lean, no program in sight. -/
namespace Go.Fl
theorem enc_in_pt {I : Iv} {a : Int} (h1 : I.lo ≤ a) (h2 : a ≤ I.hi) : ∀ {cs : List Int}, (enc I cs).1 ≤ (if cs.length = 0 then 0 else I.den * hm (lP cs) (cs.length - 1) a I.den) ∧ (if cs.length = 0 then 0 else I.den * hm (lP cs) (cs.length - 1) a I.den) ≤ (enc I cs).2.1
 | [] => by simp [enc]
 | c :: cs => by
  obtain ⟨e1, e2⟩ := enc_in_pt h1 h2 (cs := cs)
  have e0 : lP (c :: cs) 0 = c := by unfold lP; simp [nth]
  have hv : I.den * hm (lP (c :: cs)) cs.length a I.den = (if cs.length = 0 then 0 else I.den * hm (lP cs) (cs.length - 1) a I.den) * a + c * (I.den ^ cs.length * I.den) := by
   by_cases h : cs.length = 0
   ·rw [if_pos h, h]
    simp [hm, sumTo, e0, Int.mul_comm]
   ·rw [if_neg h]
    have e : cs.length = cs.length - 1 + 1 := by omega
    conv => lhs; rw [e, hm_cons, lP_cons, e0, ← e]
    rw [Int.mul_add, Int.add_comm]
    congr 1
    ·simp only [Int.mul_left_comm, Int.mul_comm]
    ·simp only [Int.mul_left_comm, Int.mul_comm]
  rw [if_neg (by simp), List.length_cons, Nat.add_sub_cancel, hv, enc]
  simp only
  rw [enc_d]
  have := hull e1 e2 h1 h2
  omega
theorem mul_ab {x y : Int} {m n : Nat} (h1 : x.natAbs ≤ m) (h2 : y.natAbs ≤ n) : (x * y).natAbs ≤ m * n := by rw [Int.natAbs_mul]; exact Nat.mul_le_mul h1 h2
set_option maxHeartbeats 2000000 in
theorem enc_bd {I : Iv} {A F W : Nat} (hlo : I.lo.natAbs ≤ A) (hhi : I.hi.natAbs ≤ A) (hden : I.den.natAbs ≤ A) (hw : (I.hi - I.lo).natAbs ≤ W) : ∀ {cs : List Int}, (∀ c ∈ cs, c.natAbs ≤ F) → (enc I cs).1.natAbs ≤ cs.length * F * A ^ cs.length ∧ (enc I cs).2.1.natAbs ≤ cs.length * F * A ^ cs.length ∧ ((enc I cs).2.1 - (enc I cs).1).natAbs * A ≤ cs.length * cs.length * F * W * A ^ cs.length
 | [], _ => by simp [enc]
 | c :: cs, h => by
  obtain ⟨b1, b2, b3⟩ := enc_bd hlo hhi hden hw (cs := cs) fun x hx => h x (List.mem_cons_of_mem _ hx)
  have hc := h c List.mem_cons_self
  have hd : (c * ((enc I cs).2.2 * I.den)).natAbs ≤ F * A ^ (cs.length + 1) := by
   rw [enc_d]
   refine mul_ab hc ?_
   rw [Nat.pow_succ]
   refine mul_ab ?_ hden
   rw [Int.natAbs_pow]
   exact Nat.pow_le_pow_left hden _
  rw [enc]
  simp only [List.length_cons]
  generalize hX : (enc I cs).1 = X at *
  generalize hY : (enc I cs).2.1 = Y at *
  generalize c * ((enc I cs).2.2 * I.den) = D at *
  generalize hL : cs.length = L at *
  have hpw : A ^ (L + 1) = A ^ L * A := Nat.pow_succ ..
  generalize hM : L * F * A ^ L = M at *
  have hMA : (L + 1) * F * A ^ (L + 1) = M * A + F * A ^ (L + 1) := by
   rw [← hM, hpw]; simp only [Nat.add_mul, Nat.one_mul, Nat.mul_assoc]
  have corner : ∀ x y, (x = X ∨ x = Y) → (y = I.lo ∨ y = I.hi) → (x * y).natAbs ≤ M * A := fun x y hx hy => by
   refine mul_ab ?_ ?_
   ·rcases hx with rfl | rfl <;> assumption
   ·rcases hy with rfl | rfl <;> assumption
  have diff : ∀ x y x' y', (x = X ∨ x = Y) → (y = I.lo ∨ y = I.hi) → (x' = X ∨ x' = Y) → (y' = I.lo ∨ y' = I.hi) → (x * y - x' * y').natAbs ≤ M * W + (Y - X).natAbs * A := fun x y x' y' hx hy hx' hy' => by
   have e : x * y - x' * y' = x * (y - y') + (x - x') * y' := by rw [Int.mul_sub, Int.sub_mul]; omega
   have h1 : (x * (y - y')).natAbs ≤ M * W := by
    refine mul_ab ?_ ?_
    ·rcases hx with rfl | rfl <;> assumption
    ·rcases hy with rfl | rfl <;> rcases hy' with rfl | rfl <;> omega
   have h2 : ((x - x') * y').natAbs ≤ (Y - X).natAbs * A := by
    refine mul_ab ?_ ?_
    ·rcases hx with rfl | rfl <;> rcases hx' with rfl | rfl <;> omega
    ·rcases hy' with rfl | rfl <;> assumption
   rw [e]; omega
  obtain ⟨x, y, hx, hy, e1⟩ := min4_le (A := X) (B := Y) (L := I.lo) (H := I.hi)
  obtain ⟨x', y', hx', hy', e2⟩ := max4_ge (A := X) (B := Y) (L := I.lo) (H := I.hi)
  have k1 := corner x y hx hy
  have k2 := corner x' y' hx' hy'
  have k3 := diff x' y' x y hx' hy' hx hy
  rw [e1, e2, hMA]
  refine ⟨by omega, by omega, ?_⟩
  rw [show x' * y' + D - (x * y + D) = x' * y' - x * y by omega]
  refine Nat.le_trans (Nat.mul_le_mul_right A k3) ?_
  rw [Nat.add_mul]
  have k4 : (Y - X).natAbs * A * A ≤ L * L * F * W * A ^ L * A := Nat.mul_le_mul_right _ b3
  have e5 : M * W * A = L * F * W * A ^ (L + 1) := by
   rw [← hM, hpw]; simp only [Nat.mul_assoc, Nat.mul_left_comm, Nat.mul_comm]
  have e6 : L * L * F * W * A ^ L * A = L * L * F * W * A ^ (L + 1) := by rw [hpw]; simp only [Nat.mul_assoc]
  have e7 : (L + 1) * (L + 1) * F * W * A ^ (L + 1) = L * L * F * W * A ^ (L + 1) + L * F * W * A ^ (L + 1) + (L + 1) * F * W * A ^ (L + 1) := by
   have : (L + 1) * (L + 1) = L * L + L + (L + 1) := by simp only [Nat.add_mul, Nat.mul_add, Nat.one_mul, Nat.mul_one]
   rw [this]; simp only [Nat.add_mul]
  rw [e5]; rw [e6] at k4
  omega
theorem hm_bd {f : Pol} {m A F : Nat} {a b : Int} (ha : a.natAbs ≤ A) (hb : b.natAbs ≤ A) (hf : ∀ i, (f i).natAbs ≤ F) : (hm f m a b).natAbs ≤ (m + 1) * (F * A ^ m) := by
 unfold hm
 have key : ∀ k, k ≤ m + 1 → (sumTo (fun i => f i * a ^ i * b ^ (m - i)) k).natAbs ≤ k * (F * A ^ m) := by
  intro k
  induction k with
  | zero => intro _; simp [sumTo]
  | succ k ih =>
   intro hk
   have h1 := ih zo
   have h2 : (f k * a ^ k * b ^ (m - k)).natAbs ≤ F * A ^ m := by
    have e : A ^ m = A ^ k * A ^ (m - k) := by rw [← Nat.pow_add]; congr 1; omega
    rw [e, ← Nat.mul_assoc]
    refine mul_ab (mul_ab (hf k) ?_) ?_
    ·rw [Int.natAbs_pow]; exact Nat.pow_le_pow_left ha _
    ·rw [Int.natAbs_pow]; exact Nat.pow_le_pow_left hb _
   rw [sumTo_succ, Nat.add_mul, Nat.one_mul]
   omega
 exact key _ (Nat.le_refl _)
end Go.Fl

/- Halving ends: so often, and a number other than 0 is told from 0. Plain Lean, no program in sight. -/
namespace Go.Fl
theorem ivK_den {p : List Int} {I : Iv} : ∀ {k : Nat}, (ivK p I k).den = I.den * 2 ^ k
 | 0 => by simp [ivK]
 | k + 1 => by
  have ih := ivK_den (p := p) (I := I) (k := k)
  have : (halveI p (ivK p I k)).den = (ivK p I k).den + (ivK p I k).den := by unfold halveI; split <;> rfl
  rw [ivK, this, ih, Int.pow_succ, ← Int.mul_assoc]; omega
theorem ivK_wid {p : List Int} {I : Iv} : ∀ {k : Nat}, (ivK p I k).hi - (ivK p I k).lo = I.hi - I.lo
 | 0 => rfl
 | k + 1 => by
  have ih := ivK_wid (p := p) (I := I) (k := k)
  rw [ivK]
  unfold halveI
  split <;> simp only <;> omega
theorem ivK_bd {p : List Int} {I : Iv} (hI : I.Ok) {R : Int} (h1 : -(R * I.den) ≤ I.lo) (h2 : I.hi ≤ R * I.den) : ∀ {k : Nat}, -(R * (ivK p I k).den) ≤ (ivK p I k).lo ∧ (ivK p I k).hi ≤ R * (ivK p I k).den
 | 0 => ⟨h1, h2⟩
 | k + 1 => by
  have ih := ivK_bd hI h1 h2 (p := p) (k := k)
  have hle := (ivK_ok hI (p := p) (k := k)).le
  rw [ivK]
  unfold halveI
  split <;> simp only <;> rw [Int.mul_add] <;> omega
def hmL (p : List Int) (a b : Int) : Int := hm (lP p) (p.length - 1) a b
theorem sgn_cases (z : Int) : (z < 0 ∧ sgn z = -1) ∨ (z = 0 ∧ sgn z = 0) ∨ (0 < z ∧ sgn z = 1) := by
 unfold sgn cmpZ
 rcases Int.lt_trichotomy z 0 with h | h | h
 ·exact .inl ⟨h, by simp [h]⟩
 ·exact .inr (.inl ⟨h, by simp [h]⟩)
 ·exact .inr (.inr ⟨h, by rw [if_neg zo, if_pos h]⟩)
theorem ivK_sgn {p : List Int} {I : Iv} (hI : I.Ok) (hnr : ∀ a b : Int, 0 < b → hmL p a b ≠ 0) (h : sgn (hmL p I.lo I.den) * sgn (hmL p I.hi I.den) < 0) : ∀ {k : Nat}, sgn (hmL p (ivK p I k).lo (ivK p I k).den) * sgn (hmL p (ivK p I k).hi (ivK p I k).den) < 0
 | 0 => h
 | k + 1 => by
  have ih := ivK_sgn hI hnr h (k := k)
  have hpos := (ivK_ok hI (p := p) (k := k)).pos
  have dbl : ∀ a b : Int, 0 < b → sgn (hmL p (a + a) (b + b)) = sgn (hmL p a b) := fun a b hb => by
   have e : hmL p (a + a) (b + b) = 2 ^ (p.length - 1) * hmL p a b := by
    unfold hmL hm
    rw [← sumTo_mulL]
    refine sumTo_congr fun i hi => ?_
    rw [← Int.two_mul, ← Int.two_mul, Int.mul_pow, Int.mul_pow]
    have : (2 : Int) ^ (p.length - 1) = 2 ^ i * 2 ^ (p.length - 1 - i) := by rw [← Int.pow_add]; congr 1; omega
    rw [this]
    simp only [Int.mul_assoc, Int.mul_left_comm, Int.mul_comm]
   have h2 : (0 : Int) < 2 ^ (p.length - 1) := Int.pow_pos zo
   rw [e]
   generalize (2 : Int) ^ (p.length - 1) = q at *
   rcases sgn_cases (hmL p a b) with ⟨h1, h3⟩ | ⟨h1, h3⟩ | ⟨h1, h3⟩
   ·have := Int.mul_neg_of_pos_of_neg h2 h1
    rcases sgn_cases (q * hmL p a b) with ⟨h4, h5⟩ | ⟨h4, h5⟩ | ⟨h4, h5⟩ <;> omega
   ·rw [h1, Int.mul_zero]
   ·have := Int.mul_pos h2 h1
    rcases sgn_cases (q * hmL p a b) with ⟨h4, h5⟩ | ⟨h4, h5⟩ | ⟨h4, h5⟩ <;> omega
  have hv : ∀ a b, (hvP a b p).1 = hmL p a b := fun a b => hvP_hm.2
  have hm0 := hnr ((ivK p I k).lo + (ivK p I k).hi) ((ivK p I k).den + (ivK p I k).den) zo
  rw [ivK]
  unfold halveI
  rw [hv, hv]
  split
  ·rename_i hc
   simp only
   rw [dbl _ _ hpos]; exact hc
  ·rename_i hc
   simp only
   rw [dbl _ _ hpos]
   have a1 := sgn_cases (hmL p (ivK p I k).lo (ivK p I k).den)
   have a2 := sgn_cases (hmL p (ivK p I k).hi (ivK p I k).den)
   have a3 := sgn_cases (hmL p ((ivK p I k).lo + (ivK p I k).hi) ((ivK p I k).den + (ivK p I k).den))
   rcases a1 with ⟨_, q1⟩ | ⟨_, q1⟩ | ⟨_, q1⟩ <;> rcases a2 with ⟨_, q2⟩ | ⟨_, q2⟩ | ⟨_, q2⟩ <;> rcases a3 with ⟨_, q3⟩ | ⟨q4, q3⟩ | ⟨_, q3⟩ <;> rw [q1, q3] at hc <;> rw [q1, q2] at ih <;> rw [q2, q3] <;> omega
def denB (n F R W : Nat) : Nat := 2 * (29 * XI F 7 * ((n + 1) * (n + 1) * F) * W * R ^ (28 + n)) + 1
theorem told_end {n R B F W X7 : Nat} {den D U V P C e1 e2 : Int} {wp : Nat} (hn : 2 ≤ n) (hR : 1 ≤ R) (hB : den = B) (hden : ((2 * (29 * X7 * ((n + 1) * (n + 1) * F) * W * R ^ (28 + n)) + 1 : Nat) : Int) ≤ den) (hT : 0 < R * B)
  (e4 : U * P + den * (V * C) = D * den ^ (28 + n)) (d0 : D ≠ 0) (hub : U.natAbs ≤ (28 + 1) * (X7 * (R * B) ^ 28)) (hvb : V.natAbs ≤ (28 + 1) * (X7 * (R * B) ^ 28))
  (hwp : wp ≤ (n + 1) * (n + 1) * F * W * (R * B) ^ n) (hwc : (e2 - e1).natAbs ≤ n * n * F * W * (R * B) ^ (n - 1)) (hsm : (den * P).natAbs ≤ wp) (cl1 : e1 ≤ den * C) (cl2 : den * C ≤ e2) : 0 < e1 ∨ e2 < 0 := by
 subst hB
 have hB0 : 0 < B := Nat.pos_of_ne_zero fun e => by subst e; simp at hT
 have hK : 2 * (29 * X7 * ((n + 1) * (n + 1) * F) * W * R ^ (28 + n)) + 1 ≤ B := by omega
 have hpw : ∀ k, (R * B) ^ k = R ^ k * B ^ k := fun k => Nat.mul_pow ..
 have h1 : (U * (B * P)).natAbs ≤ 29 * X7 * ((n + 1) * (n + 1) * F) * W * R ^ (28 + n) * B ^ (28 + n) := by
  rw [Int.natAbs_mul]
  refine Nat.le_trans (Nat.mul_le_mul hub (Nat.le_trans hsm hwp)) (Nat.le_of_eq ?_)
  rw [hpw, hpw, Nat.pow_add, Nat.pow_add]
  simp only [Nat.mul_assoc, Nat.mul_left_comm, Nat.mul_comm, Nat.reduceAdd]
 have h2 : 2 * (U * (B * P)).natAbs < B ^ (28 + n) * B := by
  have hp := Nat.pow_pos (n := 28 + n) hB0
  have : (2 * (29 * X7 * ((n + 1) * (n + 1) * F) * W * R ^ (28 + n)) + 1) * B ^ (28 + n) ≤ B * B ^ (28 + n) := Nat.mul_le_mul_right _ hK
  rw [Nat.add_mul, Nat.one_mul, Nat.mul_assoc, Nat.mul_comm B] at this
  omega
 have h3 : U * (B * P) + V * (B * C) * B = D * (B ^ (28 + n) * B) := by
  have e : (U * P + B * (V * C)) * B = D * B ^ (28 + n) * B := by rw [e4]
  rw [Int.add_mul] at e
  have q1 : U * P * B = U * (B * P) := by rw [Int.mul_assoc, Int.mul_comm P]
  have q2 : (B : Int) * (V * C) = V * (B * C) := by rw [Int.mul_left_comm]
  rw [q1, q2, Int.mul_assoc D] at e
  exact e
 have h4 : B ^ (28 + n) * B ≤ (U * (B * P)).natAbs + (V * (B * C)).natAbs * B := by
  have e : (D * ((B : Int) ^ (28 + n) * B)).natAbs = D.natAbs * (B ^ (28 + n) * B) := by
   rw [Int.natAbs_mul, Int.natAbs_mul, Int.natAbs_pow, Int.natAbs_natCast]
  have h5 : 1 * (B ^ (28 + n) * B) ≤ D.natAbs * (B ^ (28 + n) * B) := Nat.mul_le_mul_right _ zo
  have h6 : (U * (B * P) + V * (B * C) * B).natAbs ≤ (U * (B * P)).natAbs + (V * (B * C) * B).natAbs := Int.natAbs_add_le _ _
  rw [h3, e, Int.natAbs_mul (V * (B * C)), Int.natAbs_natCast] at h6
  omega
 have h7 : B ^ (28 + n) < 2 * (V * (B * C)).natAbs := by
  refine Nat.lt_of_mul_lt_mul_right (a := B) ?_
  rw [Nat.mul_assoc]
  omega
 have h8 : B ^ n < 2 * (29 * X7 * R ^ 28) * (B * C).natAbs := by
  rw [Int.natAbs_mul] at h7
  have h9 : V.natAbs * (B * C).natAbs ≤ (28 + 1) * (X7 * (R * B) ^ 28) * (B * C).natAbs := Nat.mul_le_mul_right _ hvb
  refine Nat.lt_of_mul_lt_mul_left (a := B ^ 28) ?_
  rw [← Nat.pow_add]
  refine Nat.lt_of_lt_of_le h7 (Nat.le_trans (Nat.mul_le_mul_left 2 h9) (Nat.le_of_eq ?_))
  rw [hpw]
  simp only [Nat.mul_assoc, Nat.mul_left_comm, Nat.mul_comm, Nat.reduceAdd]
 have h9 : (e2 - e1).natAbs < (B * C).natAbs := by
  refine Nat.lt_of_not_le fun hle => ?_
  have h10 : (B * C).natAbs ≤ n * n * F * W * (R * B) ^ (n - 1) := Nat.le_trans hle hwc
  have h11 : B ^ n < 2 * (29 * X7 * R ^ 28) * (n * n * F * W * (R * B) ^ (n - 1)) := Nat.lt_of_lt_of_le h8 (Nat.mul_le_mul_left _ h10)
  have e : B ^ n = B ^ (n - 1) * B := by rw [← Nat.pow_succ]; congr 1; omega
  have e5 : 2 * (29 * X7 * R ^ 28) * (n * n * F * W * (R * B) ^ (n - 1)) = B ^ (n - 1) * (2 * (29 * X7 * (n * n * F) * W * (R ^ 28 * R ^ (n - 1)))) := by
   rw [hpw]; simp only [Nat.mul_assoc, Nat.mul_left_comm, Nat.mul_comm]
  rw [e, e5] at h11
  have h12 := Nat.lt_of_mul_lt_mul_left h11
  have h13 : 29 * X7 * (n * n * F) * W * (R ^ 28 * R ^ (n - 1)) ≤ 29 * X7 * ((n + 1) * (n + 1) * F) * W * R ^ (28 + n) := by
   rw [← Nat.pow_add]
   refine Nat.mul_le_mul (Nat.mul_le_mul_right _ (Nat.mul_le_mul_left _ (Nat.mul_le_mul_right _ (Nat.mul_le_mul zo zo)))) (Nat.pow_le_pow_right hR zo)
  omega
 omega
theorem told {p cs : List Int} {I : Iv} {n F R W : Nat} (hn : 2 ≤ n) (h4 : n ≤ 4) (hpl : p.length = n + 1) (hp1 : nth p n = 1) (hred : ¬ RedP (lP p) n) (hcl : cs.length = n) (hc0 : ∃ c ∈ cs, c ≠ 0)
  (hF : 1 ≤ F) (hpF : ∀ c ∈ p, c.natAbs ≤ F) (hcF : ∀ c ∈ cs, c.natAbs ≤ F) (hR : 1 ≤ R) (hI : I.Ok) (hlo : -((R : Int) * I.den) ≤ I.lo) (hhi : I.hi ≤ R * I.den) (hW : (I.hi - I.lo).natAbs ≤ W) (hsg : sgn (hmL p I.lo I.den) * sgn (hmL p I.hi I.den) < 0)
  (hden : (denB n F R W : Int) ≤ I.den) : 0 < (enc I cs).1 ∨ (enc I cs).2.1 < 0 := by
 have hb := hI.pos
 have hle := hI.le
 obtain ⟨B, hB⟩ : ∃ B : Nat, I.den = B := ⟨I.den.toNat, by omega⟩
 have hPd : PDg (lP p) n := by have := lP_dg (cs := p); rwa [hpl, Nat.add_sub_cancel] at this
 have hCd : PDg (lP cs) (n - 1) := by have := lP_dg (cs := cs); rwa [hcl] at this
 have hPF : ∀ k, (lP p k).natAbs ≤ F := fun k => by
  unfold lP; split
  ·exact hpF _ (nth_mem zo)
  ·simp
 have hCF : ∀ k, (lP cs k).natAbs ≤ F := fun k => by
  unfold lP; split
  ·exact hcF _ (nth_mem zo)
  ·simp
 have hP1 : lP p n = 1 := by unfold lP; rw [if_pos zo, hp1]
 have hC0 : ¬ ∀ i, lP cs i = 0 := fun hz => by
  obtain ⟨c, hc, hne⟩ := hc0
  obtain ⟨i, hi, rfl⟩ := mem_nth hc
  have := hz i
  unfold lP at this
  rw [if_pos hi] at this
  exact hne this
 rcases bezout zo h4 hF hPd hP1 hCd hC0 hPF hCF with h | ⟨D, u, v, d0, hbz, hu, hv, bu, bv⟩
 ·exact absurd (div_red hn h4 hPd hP1 h) hred
 have hA1 : I.lo.natAbs ≤ R * B := by rw [hB] at hlo hhi; have : ((R * B : Nat) : Int) = R * B := Int.natCast_mul .. ; omega
 have hA2 : I.hi.natAbs ≤ R * B := by rw [hB] at hlo hhi; have : ((R * B : Nat) : Int) = R * B := Int.natCast_mul .. ; omega
 have hA3 : I.den.natAbs ≤ R * B := by
  have : 1 * B ≤ R * B := Nat.mul_le_mul_right _ hR
  rw [hB, Int.natAbs_natCast]; omega
 obtain ⟨p1, p2, p3⟩ := enc_bd hA1 hA2 hA3 hW (cs := p) hpF
 obtain ⟨c1, c2, c3⟩ := enc_bd hA1 hA2 hA3 hW (cs := cs) hcF
 have pl := enc_in_pt (I := I) (a := I.lo) (Int.le_refl _) hle (cs := p)
 have ph := enc_in_pt (I := I) (a := I.hi) hle (Int.le_refl _) (cs := p)
 have cl := enc_in_pt (I := I) (a := I.lo) (Int.le_refl _) hle (cs := cs)
 rw [if_neg zo] at pl ph cl
 rw [hpl] at pl ph p3
 rw [hcl] at cl c3
 rw [Nat.add_sub_cancel] at pl ph
 have hpe : p.length - 1 = n := by omega
 unfold hmL at hsg
 rw [hpe] at hsg
 have hsm : (I.den * hm (lP p) n I.lo I.den).natAbs ≤ ((enc I p).2.1 - (enc I p).1).natAbs := by
  have s1 := sgn_cases (hm (lP p) n I.lo I.den)
  have s2 := sgn_cases (hm (lP p) n I.hi I.den)
  rcases s1 with ⟨q1, r1⟩ | ⟨q1, r1⟩ | ⟨q1, r1⟩ <;> rcases s2 with ⟨q2, r2⟩ | ⟨q2, r2⟩ | ⟨q2, r2⟩ <;> rw [r1, r2] at hsg <;> try omega
  ·have := Int.mul_neg_of_pos_of_neg hb q1
   have := Int.mul_pos hb q2
   omega
  ·have := Int.mul_pos hb q1
   have := Int.mul_neg_of_pos_of_neg hb q2
   omega
 have hT : 0 < R * B := Nat.mul_pos zo zo
 have hwp : ((enc I p).2.1 - (enc I p).1).natAbs ≤ (n + 1) * (n + 1) * F * W * (R * B) ^ n := by
  have e : (n + 1) * (n + 1) * F * W * (R * B) ^ (n + 1) = (n + 1) * (n + 1) * F * W * (R * B) ^ n * (R * B) := by rw [Nat.pow_succ, ← Nat.mul_assoc ((n + 1) * (n + 1) * F * W)]
  rw [e] at p3
  exact Nat.le_of_mul_le_mul_right p3 hT
 have hwc : ((enc I cs).2.1 - (enc I cs).1).natAbs ≤ n * n * F * W * (R * B) ^ (n - 1) := by
  have e : (R * B) ^ n = (R * B) ^ (n - 1) * (R * B) := by rw [← Nat.pow_succ]; congr 1; omega
  rw [e, ← Nat.mul_assoc (n * n * F * W)] at c3
  exact Nat.le_of_mul_le_mul_right c3 hT
 have hub := hm_bd (m := 28) hA1 hA3 bu
 have hvb := hm_bd (m := 28) hA1 hA3 bv
 have e1 := hm_cnv (a := I.lo) (b := I.den) hPd hu
 have e2 := hm_cnv (a := I.lo) (b := I.den) hCd hv
 have e3 := hm_pad (j := 1) (a := I.lo) (b := I.den) (cnv_dg hv hCd)
 have e4 : hm (fun k => cnv u (lP p) k + cnv v (lP cs) k) (28 + n) I.lo I.den = D * I.den ^ (28 + n) := by
  rw [show (fun k => cnv u (lP p) k + cnv v (lP cs) k) = fun k => if k = 0 then D else 0 from funext hbz]
  have := hm_pad (f := fun k => if k = 0 then D else 0) (m := 0) (j := 28 + n) (a := I.lo) (b := I.den) (fun i hi => by show (if i = 0 then D else 0) = 0; rw [if_neg zo])
  rw [Nat.zero_add] at this
  rw [this, Int.mul_comm]
  congr 1
  simp [hm, sumTo]
 rw [hm_add, e1, show 28 + n = 28 + (n - 1) + 1 by omega, e3, e2, show 28 + (n - 1) + 1 = 28 + n by omega, Int.pow_one] at e4
 exact told_end (n := n) (F := F) (W := W) (X7 := XI F 7) hn hR hB hden hT e4 d0 hub hvb hwp hwc hsm cl.1 cl.2
end Go.Fl

/- Values of polynomials at fractions, from the last coefficient on: sizes. No program in sight. -/
namespace Go.Fl
open Go
def hvK (a d : Int) (p : List Int) (k : Nat) : Int × Int := hvP a d (p.drop (p.length - k))
theorem drop_step {p : List Int} {k : Nat} (hk : k < p.length) : p.drop (p.length - (k + 1)) = nth p (p.length - 1 - k) :: p.drop (p.length - k) := by
 have h := List.drop_eq_getElem_cons (l := p) (i := p.length - (k + 1)) zo
 rw [h, show p.length - (k + 1) + 1 = p.length - k by omega]
 refine congrArg (· :: _) ?_
 rw [nth_of_get? (List.getElem?_eq_getElem (show p.length - 1 - k < p.length by omega))]
 congr 1
 omega
theorem hvK_step {a d : Int} {p : List Int} {k : Nat} (hk : k < p.length) : hvK a d p (k + 1) = ((hvK a d p k).1 * a + nth p (p.length - 1 - k) * (hvK a d p k).2, (hvK a d p k).2 * d) := by
 unfold hvK
 rw [drop_step hk]
 rfl
theorem hvK_zero {a d : Int} {p : List Int} : hvK a d p 0 = (0, 1) := by
 unfold hvK
 rw [Nat.sub_zero, List.drop_length]
 rfl
theorem hvK_end {a d : Int} {p : List Int} : hvK a d p p.length = hvP a d p := by
 unfold hvK
 rw [Nat.sub_self, List.drop_zero]
theorem hvK_dl {a d : Int} {p : List Int} {B C : Nat} (hp : ∀ i, dl (nth p i) ≤ C) (ha : dl a ≤ B) (hd : dl d ≤ B) : ∀ {k : Nat}, k ≤ p.length → dl (hvK a d p k).1 ≤ k * (B + 1) + C + 1 ∧ dl (hvK a d p k).2 ≤ k * B + 1
 | 0, _ => by
  rw [hvK_zero]
  have h0 : dl (0 : Int) = 0 := dl_zero.2 rfl
  have h1 := dl_small (F := 1) zo zo
  exact ⟨by show dl 0 ≤ _; omega, by show dl 1 ≤ _; omega⟩
 | k + 1, hk => by
  obtain ⟨h1, h2⟩ := hvK_dl (p := p) hp ha hd (k := k) zo
  rw [hvK_step zo]
  have q1 := dl_mul (hvK a d p k).1 a
  have q2 := dl_mul (nth p (p.length - 1 - k)) (hvK a d p k).2
  have q3 := dl_add ((hvK a d p k).1 * a) (nth p (p.length - 1 - k) * (hvK a d p k).2)
  have q4 := dl_mul (hvK a d p k).2 d
  have q5 := hp (p.length - 1 - k)
  have e1 : (k + 1) * (B + 1) = k * (B + 1) + B + 1 := by rw [Nat.succ_mul]; omega
  have e2 : (k + 1) * B = k * B + B := Nat.succ_mul _ _
  have e3 : k * (B + 1) = k * B + k := by rw [Nat.mul_add, Nat.mul_one]
  exact ⟨by show dl ((hvK a d p k).1 * a + _) ≤ _; omega, by show dl ((hvK a d p k).2 * d) ≤ _; omega⟩
end Go.Fl

/- Contracts: signs of polynomials, enclosures, halving. -/
namespace Go.Fl
open Go Go.Proofs
open TrL renaming op → tO
open RunD renaming op → rO
set_option maxRecDepth 100000

section
open Go Go.RowKit Go.Proofs
attribute [local go_sem] Oper.semAt_some
set_option maxHeartbeats 2000000 in
theorem back_poly : BackOk Tryz.prog 225 eZ := by
 intro J W xs ptr him hp
 obtain ⟨bx, ox, ds, rfl, hrd, hcell⟩ := hp
 obtain ⟨ad, cap, rfl, ⟨hlen, hcap⟩, hrow⟩ := hrd
 obtain ⟨cv, hcv⟩ : ∃ cv : Nat → List Value, ∀ i, i < xs.length → eZ.rd J (cv i) (nth xs i) ∧ ∃ b o, ad = some ⟨b, o, none⟩ ∧ ∀ j v, (cv i)[j]? = some v → J b (o + i * 2 + j) = some v := by
  have : ∀ i, ∃ l : List Value, i < xs.length → eZ.rd J l (nth xs i) ∧ ∃ b o, ad = some ⟨b, o, none⟩ ∧ ∀ j v, l[j]? = some v → J b (o + i * 2 + j) = some v := fun i => by
   by_cases hi : i < xs.length
   ·obtain ⟨b, o, rfl, hrw⟩ := hrow.resolve_left (fun e => by subst e; simp at hi)
    obtain ⟨l, q1, q2⟩ := hrw i _ (nth_get hi)
    exact ⟨l, fun _ => ⟨q1, b, o, rfl, q2⟩⟩
   ·exact ⟨[], fun h => absurd h hi⟩
  exact ⟨fun i => (this i).choose, fun i hi => (this i).choose_spec hi⟩
 refine ⟨fun i => .agg (cv i).toArray, fun i hi => ⟨cv i, (hcv i hi).1, rfl⟩, ?_⟩
 intro l Iv Ix hY h0
 have hbox : ∀ W', Im J W' → W'.cell? ⟨bx, ox, none⟩ = some (.slice ad xs.length cap) := fun W' h => h _ _ _ (by have := hcell 0 _ rfl; simpa using this)
 simp only [lenMax] at hlen
 have hb0 := hbox W him
 refine (callsIn_wide (n := 3)).1 ?_; refine callsIn_of_wp Tryz.func225 rfl trivial ?_
 simp only [Tryz.ntmps225, List.size_toArray, List.length_cons, List.length_nil, Nat.reduceAdd, Nat.reduceSub, Array.replicate_succ, Array.replicate_zero, List.push_toArray, List.append_toArray, List.nil_append, List.cons_append]
 gi_wp2
 gi_loopw [3] (fun i wr => ∃ k : Nat, k ≤ xs.length ∧ i = .int .i64 ((xs.length : Int) - 1 - k) ∧ Iv k wr ∧ Im J wr)
  (fun i _ => (intOf i + 1).toNat)
 case atStart => exact ⟨0, Nat.zero_le _, by simp, h0, him⟩
 case round =>
  obtain ⟨k, hk, rfl, hJs, himr⟩ := hrel
  have hbr := hbox wr himr
  by_cases hlt : k < xs.length
  ·obtain ⟨fn, tmps, assign, body, hy, hR⟩ := hY k wr hlt himr hJs
   rw [show ((xs.length - 1 - k : Nat) : Int) = (xs.length : Int) - 1 - k by omega] at hy
   obtain ⟨q1, b, o, rfl, q2⟩ := hcv (xs.length - 1 - k) zo
   obtain ⟨c1, c2, hc12⟩ : ∃ c1 c2, cv (xs.length - 1 - k) = [c1, c2] := by
    have hl2 : (cv (xs.length - 1 - k)).length = 2 := eZ.len q1
    match hcc : cv (xs.length - 1 - k), hl2 with
    | [c1, c2], _ => exact ⟨c1, c2, rfl⟩
   rw [hc12] at q2
   simp only [hc12] at hy
   have hx1 : wr.cell? ⟨b, o + (xs.length - 1 - k) * 2, none⟩ = some c1 := himr _ _ _ (by have := q2 0 c1 rfl; simpa using this)
   have hx2 : wr.cell? ⟨b, o + (xs.length - 1 - k) * 2 + 1, none⟩ = some c2 := himr _ _ _ (q2 1 c2 rfl)
   gi_wp2
   refine hR.mono ?_
   rintro e W3 (⟨rfl, hJ3, hk3⟩ | ⟨rfl, hJx3⟩)
   ·gi_wp2
    go_roundw
    case rel => exact ⟨k + 1, by omega, by congr 1; omega, hJ3, hk3⟩
    case measure => simp [intOf]; omega
   ·gi_wp2
    refine bodyPost_ret (results_none rfl _ _ _) rfl ?_; exact ⟨⟨_, rfl⟩, .inr ⟨k, hlt, hJx3⟩⟩
  ·obtain rfl : k = xs.length := by omega
   gi_wp2
   go_end0
   exact ⟨⟨_, rfl⟩, .inl hJs⟩
end
theorem cB_zero {z : Int} (h : 0 = z) : ∀ g b o, cBlk [kDet (.bool false), kDet (.slice none 0 0)] g b o → cBlk [kB (decide (z < 0)), kRd (eL eI) (digN z.natAbs)] g b o := fun g b o h' => by
 subst h
 obtain ⟨cs, ty, h1, h2⟩ := h'
 refine ⟨cs, ty, h1, ?_⟩
 match hcs : cs.toList, h2 with
 | [c1, c2], ⟨k1, k2, _⟩ => exact ⟨k1, ⟨_, rd_nil (c := 0), k2⟩, trivial⟩
theorem ct_backP (xs : List Int) : Ct Tryz.prog 215 [kRd (eL eZ) xs] (kClo 225 [kPtr (eL eZ) xs]) := by
 refine Ct.mk Tryz.func215 rfl Tryz.ntmps215 rfl (fun w J => ?_); refine jx2 ?_; refine jb 1 rfl ?_; refine jx4 ?_; refine Tr.frzB 1 [1] (eL eZ) ⟨rfl, trivial⟩ rfl ?_; refine jn ?_; refine jx1 ?_; refine tO (ok_clo (.cons rfl uu <| .nil)) rfl rfl ?_; refine jx4 ?_; exact Rts.res1 (fn := Tryz.f215) rfl (zk)

theorem ct_signAt (p : List Int) (a d : Int) (B C : Nat) (hl : p.length ≤ 6) (hpp : ∀ i, dl (nth p i) ≤ C) (ha : dl a ≤ B) (hd : dl d ≤ B) (hB : B ≤ 100000) (hC : C ≤ 100000) : Ct Tryz.prog 193 [kRd (eL eZ) p, kRd eW (wh a), kRd eW (wh d)] (kI (sgn (hvP a d p).1)) := by
 refine CtM.mk Tryz.func193 rfl Tryz.ntmps193 rfl (fun w J => ?_); refine jx2 ?_; refine jb 4 rfl ?_; refine jb 5 rfl ?_; refine jx5 ?_; refine tO (ok_build (fun hp => .nil)) rfl rfl ?_; refine jc (ct_fsmall 1 zo) ?_; refine ja 7 ?_; refine ja 8 ?_; refine jx8 ?_; refine tO (ok_call (fun hp => ct_backP _) (.a rfl uu <| .nil)) rfl rfl ?_; refine jx3 ?_
 refine Tr.back (e := eZ) (xs := p) back_poly [⟨4, true, _, _⟩, ⟨5, true, _, _⟩, ⟨6, true, _, _⟩, ⟨7, true, _, _⟩, ⟨8, true, _, _⟩, ⟨14, true, _, _⟩] [4, 5, 7, 8] (fun k => [⟨4, [], cBlk [kB (decide (a < 0)), kRd (eL eI) (digN (a).natAbs)]⟩, ⟨5, [], cBlk [kB (decide (d < 0)), kRd (eL eI) (digN (d).natAbs)]⟩, ⟨7, [], cBlk [kB (decide ((hvK a d p k).1 < 0)), kRd (eL eI) (digN ((hvK a d p k).1).natAbs)]⟩, ⟨8, [], cBlk [kB (decide ((hvK a d p k).2 < 0)), kRd (eL eI) (digN ((hvK a d p k).2).natAbs)]⟩]) (fun k => [⟨4, [], cBlk [kB (decide (a < 0)), kRd (eL eI) (digN (a).natAbs)]⟩, ⟨5, [], cBlk [kB (decide (d < 0)), kRd (eL eI) (digN (d).natAbs)]⟩, ⟨7, [], cBlk [kB (decide ((hvK a d p k).1 < 0)), kRd (eL eI) (digN ((hvK a d p k).1).natAbs)]⟩, ⟨8, [], cBlk [kB (decide ((hvK a d p k).2 < 0)), kRd (eL eI) (digN ((hvK a d p k).2).natAbs)]⟩]) (fun k => True) (fun k => False) (Ent.mk (.k rfl rfl <| .k rfl rfl <| .k rfl rfl <| .k rfl rfl <| .k rfl rfl <| .k rfl rfl <| .nil) (.k rfl <| .k rfl <| .conv (cB_zero (by rw [hvK_zero])) rfl <| .conv (cB_eq (dcell (by rw [hvK_zero]))) rfl <| .nil) rfl) rfl rfl (fun _ => rfl) (fun _ => rfl) (fun _ => inferInstance) (fun _ => inferInstance) rfl zi ?_ ?_ ?_
 ·intro k hk14 hR14 l14 w14 J14 b14 bks14
  refine jn ?_
  have hb := hvK_dl hpp ha hd (k := k) zo
  have hk5 : k * (B + 1) ≤ 5 * 100001 := Nat.mul_le_mul zo zo
  have hk6 : k * B ≤ 5 * 100000 := Nat.mul_le_mul zo zo
  have hcp := hpp (p.length - 1 - k)
  have hm1 := dl_mul (hvK a d p k).1 a
  have hm2 := dl_mul (nth p (p.length - 1 - k)) (hvK a d p k).2
  refine jx1 ?_; refine ja 10 ?_; refine jx2 ?_; refine End.asg (fun w1014 J1014 b1014 => ?_); refine jn ?_; refine jx2 ?_; refine Tr.draw 5 mixed (by kernel_rfl) ?_; refine jx2 ?_; refine jd (ct_wtimes (hvK a d p k).1 a zo zo) ?_; refine jx3 ?_; refine jc (ct_wtimes (nth p (p.length - 1 - k)) (hvK a d p k).2 zo zo) ?_; refine jc (ct_wplus ((hvK a d p k).1 * a) (nth p (p.length - 1 - k) * (hvK a d p k).2) zo zo) ?_; refine jx6 ?_; refine jc (ct_wtimes (hvK a d p k).2 d zo zo) ?_; refine jx3 ?_; exact End.rnd trivial (Ent.mk (zk) (.k rfl <| .k rfl <| .conv (cB_eq (dcell (by rw [hvK_step zo]))) rfl <| .conv (cB_eq (dcell (by rw [hvK_step zo]))) rfl <| .nil) rfl)
 ·intro hE14
  refine je ?_; refine jx5 ?_; refine jc (ct_wsign (hvK a d p p.length).1) ?_; refine jx4 ?_; refine Rts.mk ?_; exact Rts.res1 (fn := Tryz.f193) rfl (.i rfl (by rw [hvK_end]; rfl) <| .nil)
 ·intro k hk14 hX14
  exact absurd hX14 id

end Go.Fl

/- Contracts: halving. -/
namespace Go.Fl
open Go Go.Proofs
open TrL renaming op → tO
open RunD renaming op → rO
set_option maxRecDepth 100000

theorem cBlk_J2 {ks : List Know} {dep : List Nat} [hd : KsDep ks dep] [hn : IsNil dep] {g : Gh} {bk : Bk} {o : Option Obj} {b cap : Nat} (h : cBlk ks g bk o) : cBlk ks (g1 g.J b cap) (.blk b cap) o :=
 let ⟨cs, ty, h1, h2⟩ := h; ⟨cs, ty, h1, hd.dep (g := g) (g' := g1 g.J b cap) (JV.le_refl _) (fun t ht => by rw [hn.eq] at ht; cases ht) h2⟩
theorem sgn_bd (z : Int) : -1 ≤ sgn z ∧ sgn z ≤ 1 := by unfold sgn cmpZ; split; omega; split <;> omega
theorem sgn_mul_bd (y z : Int) : -1 ≤ sgn y * sgn z ∧ sgn y * sgn z ≤ 1 := by
 obtain ⟨h1, h2⟩ := sgn_bd y
 obtain ⟨h3, h4⟩ := sgn_bd z
 rcases (show sgn y = -1 ∨ sgn y = 0 ∨ sgn y = 1 by omega) with h | h | h <;> rw [h] <;> omega
theorem ct_halve (k1 k2 k3 k4 k5 : Know) [KDep k1 []] [KDep k2 []] [KDep k3 []] [KDep k4 []] [KDep k5 []] (p : List Int) (I : Iv) (B : Nat) (hl : p.length ≤ 6) (hpp : ∀ i, dl (nth p i) ≤ 1) (h1 : dl I.lo ≤ B) (h2 : dl I.hi ≤ B) (h3 : dl I.den ≤ B) (hB : B ≤ 90000) : CtB Tryz.prog 164 (kOwn 0 0) [] (cBlk [k1, k2, k3, k4, kRd (eL eZ) p, k5, kB (decide (I.lo < 0)), kRd (eL eI) (digN (I.lo).natAbs), kB (decide (I.hi < 0)), kRd (eL eI) (digN (I.hi).natAbs), kB (decide (I.den < 0)), kRd (eL eI) (digN (I.den).natAbs)]) (cBlk [k1, k2, k3, k4, kRd (eL eZ) p, k5, kB (decide ((halveI p I).lo < 0)), kRd (eL eI) (digN ((halveI p I).lo).natAbs), kB (decide ((halveI p I).hi < 0)), kRd (eL eI) (digN ((halveI p I).hi).natAbs), kB (decide ((halveI p I).den < 0)), kRd (eL eI) (digN ((halveI p I).den).natAbs)]) (kDet (.tuple #[])) := by
 have a1 := dl_add I.lo I.hi
 have a2 := dl_add I.den I.den
 have a3 := dl_add I.lo I.lo
 have a4 := dl_add I.hi I.hi
 refine CtB.mk Tryz.func164 rfl Tryz.ntmps164 rfl (fun w J bb cap => ?_); refine jx1 ?_; refine Tr.draw 20 mixed (by kernel_rfl) ?_; refine jx1 ?_; refine rO (ok_nilB rfl uu) rfl rfl ?_; refine jx3 ?_; refine rO (ok_nilB rfl uu) rfl rfl ?_; refine jx2 ?_; refine jd (ct_wplus I.lo I.hi zo zo) ?_; refine jx1 ?_; refine rO (ok_nilB rfl uu) rfl rfl ?_; refine jx3 ?_; refine rO (ok_nilB rfl uu) rfl rfl ?_; refine jx2 ?_; refine jd (ct_wplus I.den I.den zo zo) ?_; refine RunD.new (ok_alloc 2) rfl rfl rfl rfl ?_; refine RunD.new (ok_alloc 3) rfl rfl rfl rfl ?_
 refine jx7 ?_; refine Tr.draw 19 mixed (by kernel_rfl) ?_; refine jx1 ?_; refine rO (ok_nilB rfl uu) rfl rfl ?_; refine jx3 ?_; refine rO (ok_nilB rfl uu) rfl rfl ?_; refine jx3 ?_; refine rO (ok_nilB rfl uu) rfl rfl ?_; refine jx2 ?_; refine jd (ct_signAt p I.lo I.den 100000 1 hl hpp zo zo zo zo) ?_; refine jx1 ?_; refine rO (ok_nilB rfl uu) rfl rfl ?_; refine jx5 ?_; refine jc (ct_signAt p (I.lo + I.hi) (I.den + I.den) 100000 1 hl hpp zo zo zo zo) ?_; refine tO (ok_mul rfl uu rfl uu (fun _ => by have := sgn_mul_bd (hvP I.lo I.den p).1 (hvP (I.lo + I.hi) (I.den + I.den) p).1; omega)) rfl rfl ?_
 refine jx3 ?_; refine jq ?_ ?_
 ·intro h1
  have hi : halveI p I = ⟨I.lo + I.lo, I.lo + I.hi, I.den + I.den⟩ := if_pos h1
  rw [hi]
  refine Tr.drawS 14 0 mixed (by kernel_rfl) ?_; refine RunS.opA (ok_move rfl uu) (by kernel_rfl) rfl rfl ?_; refine RunS.op (ok_move rfl uu) rfl rfl ?_; refine RunS.opA (ok_move rfl uu) (by kernel_rfl) rfl rfl ?_; refine RunS.opA (ok_nilB rfl uu) (by kernel_rfl) rfl rfl ?_; refine RunS.opA (ok_fldO rfl uu) (by kernel_rfl) rfl rfl ?_; refine RunS.opA (ok_ldBS rfl uu) (by kernel_rfl) rfl rfl ?_; refine RunS.opA (ok_move rfl uu) (by kernel_rfl) rfl rfl ?_; refine RunS.opA (ok_nilB rfl uu) (by kernel_rfl) rfl rfl ?_; refine RunS.opA (ok_fldO rfl uu) (by kernel_rfl) rfl rfl ?_; refine RunS.opA (ok_ldBS rfl uu) (by kernel_rfl) rfl rfl ?_
  refine RunS.opA (ok_call (fun hp => ct_wplus I.lo I.lo zo zo) (.se rfl uu rfl rfl <| .se rfl uu rfl rfl <| .nil)) (by kernel_rfl) rfl rfl ?_; refine RunS.op (ok_ldBS rfl uu) rfl rfl ?_; refine RunS.opA (ok_nilB rfl uu) (by kernel_rfl) rfl rfl ?_; refine RunS.opA (ok_fldO rfl uu) (by kernel_rfl) rfl rfl ?_; refine RunS.z (st_B rfl rfl rfl) rfl rfl rfl ?_; refine tO (ok_nilB rfl uu) rfl rfl ?_; refine jx7 ?_; refine tO (ok_nilB rfl uu) rfl rfl ?_; refine jx3 ?_; exact End.mutB (t := 0) rfl rfl (fun _ _ _ h => cBlk_J2 h)
 ·intro h1
  replace h1 := Int.not_lt.1 h1
  have hi : halveI p I = ⟨I.lo + I.hi, I.hi + I.hi, I.den + I.den⟩ := if_neg zo
  rw [hi]
  refine Tr.drawS 14 0 mixed (by kernel_rfl) ?_; refine RunS.opA (ok_move rfl uu) (by kernel_rfl) rfl rfl ?_; refine RunS.op (ok_move rfl uu) rfl rfl ?_; refine RunS.opA (ok_ldBS rfl uu) (by kernel_rfl) rfl rfl ?_; refine RunS.opA (ok_move rfl uu) (by kernel_rfl) rfl rfl ?_; refine RunS.opA (ok_nilB rfl uu) (by kernel_rfl) rfl rfl ?_; refine RunS.opA (ok_fldO rfl uu) (by kernel_rfl) rfl rfl ?_; refine RunS.opA (ok_ldBS rfl uu) (by kernel_rfl) rfl rfl ?_; refine RunS.opA (ok_move rfl uu) (by kernel_rfl) rfl rfl ?_; refine RunS.opA (ok_nilB rfl uu) (by kernel_rfl) rfl rfl ?_; refine RunS.opA (ok_fldO rfl uu) (by kernel_rfl) rfl rfl ?_
  refine RunS.opA (ok_ldBS rfl uu) (by kernel_rfl) rfl rfl ?_; refine RunS.opA (ok_call (fun hp => ct_wplus I.hi I.hi zo zo) (.se rfl uu rfl rfl <| .se rfl uu rfl rfl <| .nil)) (by kernel_rfl) rfl rfl ?_; refine RunS.opA (ok_nilB rfl uu) (by kernel_rfl) rfl rfl ?_; refine RunS.opA (ok_fldO rfl uu) (by kernel_rfl) rfl rfl ?_; refine RunS.z (st_B rfl rfl rfl) rfl rfl rfl ?_; refine tO (ok_nilB rfl uu) rfl rfl ?_; refine jx7 ?_; refine tO (ok_nilB rfl uu) rfl rfl ?_; refine jx3 ?_; exact End.mutB (t := 0) rfl rfl (fun _ _ _ h => cBlk_J2 h)

end Go.Fl

/- Contracts: loops over lists of integers of any size. -/
namespace Go.Fl
open Go Go.Proofs
open TrL renaming op → tO
open RunD renaming op → rO
set_option maxRecDepth 100000

section
open Go Go.RowKit Go.Proofs
attribute [local go_sem] Oper.semAt_some
set_option maxHeartbeats 2000000 in
theorem back_wholes : BackOk Tryz.prog 217 eZ := by
 intro J W xs ptr him hp
 obtain ⟨bx, ox, ds, rfl, hrd, hcell⟩ := hp
 obtain ⟨ad, cap, rfl, ⟨hlen, hcap⟩, hrow⟩ := hrd
 obtain ⟨cv, hcv⟩ : ∃ cv : Nat → List Value, ∀ i, i < xs.length → eZ.rd J (cv i) (nth xs i) ∧ ∃ b o, ad = some ⟨b, o, none⟩ ∧ ∀ j v, (cv i)[j]? = some v → J b (o + i * 2 + j) = some v := by
  have : ∀ i, ∃ l : List Value, i < xs.length → eZ.rd J l (nth xs i) ∧ ∃ b o, ad = some ⟨b, o, none⟩ ∧ ∀ j v, l[j]? = some v → J b (o + i * 2 + j) = some v := fun i => by
   by_cases hi : i < xs.length
   ·obtain ⟨b, o, rfl, hrw⟩ := hrow.resolve_left (fun e => by subst e; simp at hi)
    obtain ⟨l, q1, q2⟩ := hrw i _ (nth_get hi)
    exact ⟨l, fun _ => ⟨q1, b, o, rfl, q2⟩⟩
   ·exact ⟨[], fun h => absurd h hi⟩
  exact ⟨fun i => (this i).choose, fun i hi => (this i).choose_spec hi⟩
 refine ⟨fun i => .agg (cv i).toArray, fun i hi => ⟨cv i, (hcv i hi).1, rfl⟩, ?_⟩
 intro l Iv Ix hY h0
 have hbox : ∀ W', Im J W' → W'.cell? ⟨bx, ox, none⟩ = some (.slice ad xs.length cap) := fun W' h => h _ _ _ (by have := hcell 0 _ rfl; simpa using this)
 simp only [lenMax] at hlen
 have hb0 := hbox W him
 refine (callsIn_wide (n := 3)).1 ?_; refine callsIn_of_wp Tryz.func217 rfl trivial ?_
 simp only [Tryz.ntmps217, List.size_toArray, List.length_cons, List.length_nil, Nat.reduceAdd, Nat.reduceSub, Array.replicate_succ, Array.replicate_zero, List.push_toArray, List.append_toArray, List.nil_append, List.cons_append]
 gi_wp2
 gi_loopw [3] (fun i wr => ∃ k : Nat, k ≤ xs.length ∧ i = .int .i64 ((xs.length : Int) - 1 - k) ∧ Iv k wr ∧ Im J wr)
  (fun i _ => (intOf i + 1).toNat)
 case atStart => exact ⟨0, Nat.zero_le _, by simp, h0, him⟩
 case round =>
  obtain ⟨k, hk, rfl, hJs, himr⟩ := hrel
  have hbr := hbox wr himr
  by_cases hlt : k < xs.length
  ·obtain ⟨fn, tmps, assign, body, hy, hR⟩ := hY k wr hlt himr hJs
   rw [show ((xs.length - 1 - k : Nat) : Int) = (xs.length : Int) - 1 - k by omega] at hy
   obtain ⟨q1, b, o, rfl, q2⟩ := hcv (xs.length - 1 - k) zo
   obtain ⟨c1, c2, hc12⟩ : ∃ c1 c2, cv (xs.length - 1 - k) = [c1, c2] := by
    have hl2 : (cv (xs.length - 1 - k)).length = 2 := eZ.len q1
    match hcc : cv (xs.length - 1 - k), hl2 with
    | [c1, c2], _ => exact ⟨c1, c2, rfl⟩
   rw [hc12] at q2
   simp only [hc12] at hy
   have hx1 : wr.cell? ⟨b, o + (xs.length - 1 - k) * 2, none⟩ = some c1 := himr _ _ _ (by have := q2 0 c1 rfl; simpa using this)
   have hx2 : wr.cell? ⟨b, o + (xs.length - 1 - k) * 2 + 1, none⟩ = some c2 := himr _ _ _ (q2 1 c2 rfl)
   gi_wp2
   refine hR.mono ?_
   rintro e W3 (⟨rfl, hJ3, hk3⟩ | ⟨rfl, hJx3⟩)
   ·gi_wp2
    go_roundw
    case rel => exact ⟨k + 1, by omega, by congr 1; omega, hJ3, hk3⟩
    case measure => simp [intOf]; omega
   ·gi_wp2
    refine bodyPost_ret (results_none rfl _ _ _) rfl ?_; exact ⟨⟨_, rfl⟩, .inr ⟨k, hlt, hJx3⟩⟩
  ·obtain rfl : k = xs.length := by omega
   gi_wp2
   go_end0
   exact ⟨⟨_, rfl⟩, .inl hJs⟩
end
theorem ct_backW (xs : List Int) : Ct Tryz.prog 201 [kRd (eL eZ) xs] (kClo 217 [kPtr (eL eZ) xs]) := by
 refine Ct.mk Tryz.func201 rfl Tryz.ntmps201 rfl (fun w J => ?_); refine jx2 ?_; refine jb 1 rfl ?_; refine jx4 ?_; refine Tr.frzB 1 [1] (eL eZ) ⟨rfl, trivial⟩ rfl ?_; refine jn ?_; refine jx1 ?_; refine tO (ok_clo (.cons rfl uu <| .nil)) rfl rfl ?_; refine jx4 ?_; exact Rts.res1 (fn := Tryz.f201) rfl (zk)

end Go.Fl

/- Contracts: signs of numbers. -/
namespace Go.Fl
open Go Go.Proofs
open TrL renaming op → tO
open RunD renaming op → rO
set_option maxRecDepth 100000

def sgE (a b o : Int) : Int := if 0 < cmpZ a 0 then 1 else if cmpZ b 0 < 0 then -1 else o
theorem ct_sign1 (a b c o : Int) : CtL Tryz.prog 182 [kRd eW (wh a), kRd eW (wh b), kRd eW (wh c), kOwn 0 0] (cBlk [kI o]) (cBlk [kI (sgE a b o)]) (kB (decide (sgE a b o ≠ 0))) := by
 refine CtL.mk Tryz.func182 rfl Tryz.ntmps182 rfl rfl (fun w J bb cap => ?_); refine jn ?_; refine jx2 ?_; refine jb 4 rfl ?_; refine jb 5 rfl ?_; refine jb 6 rfl ?_; refine jx7 ?_; refine jc (ct_wsign a) ?_; refine jx3 ?_; refine jq ?_ ?_
 ·intro h1
  refine jx12 ?_
  have e : sgE a b o = 1 := if_pos zo
  exact Rts.loan1 (fn := Tryz.f182) (s := 516) rfl rfl (.b rfl (by rw [e]) <| .nil) (by rw [e])
 ·intro h1
  replace h1 := Int.not_lt.1 h1
  refine jx3 ?_; refine jc (ct_wsign b) ?_; refine jx3 ?_; refine jq ?_ ?_
  ·intro h3
   refine jx12 ?_
   have e : sgE a b o = -1 := by unfold sgE; rw [if_neg zo, if_pos zo]
   exact Rts.loan1 (fn := Tryz.f182) (s := 516) rfl rfl (.b rfl (by rw [e]) <| .nil) (by rw [e])
  ·intro h3
   replace h3 := Int.not_lt.1 h3
   refine jx10 ?_
   have e : sgE a b o = o := by unfold sgE; rw [if_neg zo, if_neg zo]
   exact Rts.loan1 (fn := Tryz.f182) (s := 516) rfl rfl (.b rfl (by rw [e]) <| .nil) (by rw [e])

end Go.Fl

/- How long it takes until the sign of a number of a field is told. No program in sight. -/
namespace Go.Fl
open Go
structure FldOk (p : List Int) (I : Iv) : Prop where
 pol : PolOk p
 three : 3 ≤ p.length
 top : nth p (p.length - 1) = 1
 small : ∀ c ∈ p, c.natAbs ≤ 1000
 iv : I.Ok
 lo : -(1000000 * I.den) ≤ I.lo
 hi : I.hi ≤ 1000000 * I.den
 wid : I.hi - I.lo ≤ 2000000
 den : I.den ≤ 1000000
 red : ¬ RedP (lP p) (p.length - 1)
 sg : sgn (hmL p I.lo I.den) * sgn (hmL p I.hi I.den) < 0
theorem dlc {x : Nat} : dl ((x : Nat) : Int) = (digN x).length := by unfold dl; rw [Int.natAbs_natCast]
theorem dlN_mul (x y : Nat) : dl ((x * y : Nat) : Int) ≤ dl (x : Int) + dl (y : Int) := by rw [Int.natCast_mul]; exact dl_mul _ _
theorem dlN_le {x y : Nat} (h : x ≤ y) : dl (x : Int) ≤ dl (y : Int) := digN_len_le (by rw [Int.natAbs_natCast, Int.natAbs_natCast]; exact h)
theorem dlN_small {x : Nat} (h : x < 100000000) : dl (x : Int) ≤ 1 := dl_small zo zo
theorem dlN_pow {x k : Nat} (h : dl (x : Int) ≤ 1) : dl ((x ^ k : Nat) : Int) ≤ k + 1 := by
 induction k with
 | zero => rw [Nat.pow_zero]; exact Nat.le_trans (dlN_small zo) zo
 | succ k ih => rw [Nat.pow_succ]; have := dlN_mul (x ^ k) x; omega
theorem dl_XI : ∀ {m X : Nat}, dl ((XI X m : Nat) : Int) ≤ 2 ^ m * dl (X : Int) + 2 ^ m
 | 0, X => by rw [XI]; omega
 | m + 1, X => by
  have h1 := dl_XI (m := m) (X := 2 * X * X)
  have h2 := dlN_mul (2 * X) X
  have h3 := dlN_mul 2 X
  have h4 := dlN_small (x := 2) zo
  rw [XI, Nat.pow_succ]
  have h5 : 2 ^ m * dl ((2 * X * X : Nat) : Int) ≤ 2 ^ m * (1 + 2 * dl (X : Int)) := Nat.mul_le_mul_left _ zo
  rw [Nat.mul_add, Nat.mul_one, ← Nat.mul_assoc] at h5
  omega
theorem dl_denB {n F : Nat} (hn : n ≤ 4) : dl ((denB n F 1000000 2000000 : Nat) : Int) ≤ 129 * dl (F : Int) + 180 := by
 unfold denB
 have a1 := dl_XI (m := 7) (X := F)
 have a2 := dlN_mul 29 (XI F 7)
 have a3 := dlN_mul (29 * XI F 7) ((n + 1) * (n + 1) * F)
 have a4 := dlN_mul ((n + 1) * (n + 1)) F
 have a5 := dlN_mul (29 * XI F 7 * ((n + 1) * (n + 1) * F)) 2000000
 have a6 := dlN_mul (29 * XI F 7 * ((n + 1) * (n + 1) * F) * 2000000) (1000000 ^ (28 + n))
 have a7 := dlN_mul 2 (29 * XI F 7 * ((n + 1) * (n + 1) * F) * 2000000 * 1000000 ^ (28 + n))
 have a8 := dlN_pow (x := 1000000) (k := 28 + n) (dlN_small zo)
 have b1 := dlN_small (x := 29) zo
 have b2 := dlN_small (x := 2) zo
 have b3 := dlN_small (x := 2000000) zo
 have b4 : dl (((n + 1) * (n + 1) : Nat) : Int) ≤ 1 := dlN_small (Nat.lt_of_le_of_lt (Nat.mul_le_mul (show n + 1 ≤ 5 by omega) (show n + 1 ≤ 5 by omega)) zo)
 have a9 := dl_add ((2 * (29 * XI F 7 * ((n + 1) * (n + 1) * F) * 2000000 * 1000000 ^ (28 + n)) : Nat) : Int) 1
 have b5 := dl_small (F := 1) zo zo
 rw [show ((2 * (29 * XI F 7 * ((n + 1) * (n + 1) * F) * 2000000 * 1000000 ^ (28 + n)) + 1 : Nat) : Int) = ((2 * (29 * XI F 7 * ((n + 1) * (n + 1) * F) * 2000000 * 1000000 ^ (28 + n)) : Nat) : Int) + 1 from rfl]
 have e : (2 : Nat) ^ 7 = 128 := by decide
 rw [e] at a1
 generalize dl ((XI F 7 : Nat) : Int) = x1 at *
 generalize dl ((29 * XI F 7 : Nat) : Int) = x2 at *
 generalize dl ((29 * XI F 7 * ((n + 1) * (n + 1) * F) : Nat) : Int) = x3 at *
 generalize dl (((n + 1) * (n + 1) * F : Nat) : Int) = x4 at *
 generalize dl ((29 * XI F 7 * ((n + 1) * (n + 1) * F) * 2000000 : Nat) : Int) = x5 at *
 generalize dl ((29 * XI F 7 * ((n + 1) * (n + 1) * F) * 2000000 * 1000000 ^ (28 + n) : Nat) : Int) = x6 at *
 generalize dl ((2 * (29 * XI F 7 * ((n + 1) * (n + 1) * F) * 2000000 * 1000000 ^ (28 + n)) : Nat) : Int) = x7 at *
 generalize dl ((1000000 ^ (28 + n) : Nat) : Int) = x8 at *
 omega
theorem denB_ne {n F R W : Nat} : denB n F R W ≠ 0 := by unfold denB; omega
section
variable {p : List Int} {I : Iv} (h : FldOk p I)
include h
theorem FldOk.len4 : p.length ≤ 5 := h.pol.1.2
theorem FldOk.noroot (a b : Int) (hb : 0 < b) : hmL p a b ≠ 0 := by
 have h3 := h.three
 have h5 := h.pol.1.2
 refine no_root (n := p.length - 1) zo zo lP_dg ?_ h.red hb
 show (if p.length - 1 < p.length then nth p (p.length - 1) else 0) = 1
 rw [if_pos zo, h.top]
theorem FldOk.told {cs : List Int} {F k : Nat} (hcl : cs.length = p.length - 1) (hc0 : ∃ c ∈ cs, c ≠ 0) (hF : 1000 ≤ F) (hcF : ∀ c ∈ cs, c.natAbs ≤ F) (hk : (denB (p.length - 1) F 1000000 2000000 : Int) ≤ I.den * 2 ^ k) : 0 < (enc (ivK p I k) cs).1 ∨ (enc (ivK p I k) cs).2.1 < 0 := by
 have h3 := h.three
 have h5 := h.pol.1.2
 obtain ⟨b1, b2⟩ := ivK_bd h.iv (R := 1000000) h.lo h.hi (p := p) (k := k)
 have hw := ivK_wid (p := p) (I := I) (k := k)
 have hle := (ivK_ok h.iv (p := p) (k := k)).le
 have h6 := h.wid
 exact Go.Fl.told (n := p.length - 1) (F := F) (R := 1000000) (W := 2000000) zo zo zo h.top h.red hcl hc0 zo (fun c hc => Nat.le_trans (h.small c hc) hF) hcF zo (ivK_ok h.iv) b1 b2 zo (ivK_sgn h.iv (h.noroot) h.sg) (by rw [ivK_den]; exact hk)
theorem FldOk.bound {cs : List Int} {M : Nat} (hcl : cs.length = p.length - 1) (hc0 : ∃ c ∈ cs, c ≠ 0) (hM : ∀ c ∈ cs, dl c ≤ M) (hM1 : 1 ≤ M) (hM2 : M ≤ 560) : ∃ K, 64 ≤ K ∧ (∀ k, K ≤ k → 0 < (enc (ivK p I k) cs).1 ∨ (enc (ivK p I k) cs).2.1 < 0) ∧ ∀ k, k ≤ K → dl (ivK p I k).lo ≤ 73000 ∧ dl (ivK p I k).hi ≤ 73000 ∧ dl (ivK p I k).den ≤ 73000 := by
 have h3 := h.three
 have h5 := h.pol.1.2
 have hpos := h.iv.pos
 obtain ⟨F, hF1, hF2, hF3⟩ : ∃ F : Nat, 1000 ≤ F ∧ dl (F : Int) ≤ M ∧ ∀ c ∈ cs, c.natAbs ≤ F := by
  have key : ∀ l : List Int, (∀ c ∈ l, dl c ≤ M) → ∃ F : Nat, 1000 ≤ F ∧ dl (F : Int) ≤ M ∧ ∀ c ∈ l, c.natAbs ≤ F := by
   intro l
   induction l with
   | nil => intro _; exact ⟨1000, Nat.le_refl _, Nat.le_trans (dlN_small zo) hM1, fun c hc => by cases hc⟩
   | cons x l ih =>
    intro hl
    obtain ⟨F, q1, q2, q3⟩ := ih fun c hc => hl c (List.mem_cons_of_mem _ hc)
    refine ⟨max F x.natAbs, by omega, ?_, fun c hc => ?_⟩
    ·rw [Nat.max_def]
     split
     ·have := hl x List.mem_cons_self
      rw [dlc]; exact this
     ·exact q2
    ·rcases List.mem_cons.1 hc with rfl | hc
     ·omega
     ·have := q3 c hc; omega
  exact key cs hM
 obtain ⟨d, hd⟩ : ∃ d, d = denB (p.length - 1) F 1000000 2000000 := ⟨_, rfl⟩
 have hd0 : d ≠ 0 := hd ▸ denB_ne
 have hdl : dl (d : Int) ≤ 129 * 560 + 180 := by
  rw [hd]
  have := dl_denB (n := p.length - 1) (F := F) zo
  have : 129 * dl (F : Int) ≤ 129 * 560 := Nat.mul_le_mul_left _ zo
  omega
 have hden : ((I.den.natAbs : Nat) : Int) = I.den := by omega
 have size : ∀ k : Nat, dl ((2 ^ k : Nat) : Int) ≤ 72422 → dl (ivK p I k).lo ≤ 73000 ∧ dl (ivK p I k).hi ≤ 73000 ∧ dl (ivK p I k).den ≤ 73000 := fun k hk => by
  obtain ⟨b1, b2⟩ := ivK_bd h.iv (R := 1000000) h.lo h.hi (p := p) (k := k)
  have hle := (ivK_ok h.iv (p := p) (k := k)).le
  have hp := (ivK_ok h.iv (p := p) (k := k)).pos
  have hdk : dl (ivK p I k).den ≤ 72423 := by
   rw [ivK_den]
   have q1 := dl_mul I.den (2 ^ k)
   have q2 : dl I.den ≤ 1 := dl_small zo (by have := h.den; omega)
   have q3 : dl ((2 : Int) ^ k) ≤ 72422 := by rw [show ((2 : Int) ^ k) = ((2 ^ k : Nat) : Int) by rw [Int.natCast_pow]; rfl]; exact hk
   omega
  have q4 := dl_mul 1000000 (ivK p I k).den
  have q5 := dl_small (F := 1000000) zo zo
  have mono : ∀ z : Int, z.natAbs ≤ (1000000 * (ivK p I k).den).natAbs → dl z ≤ 73000 := fun z hz => Nat.le_trans (digN_len_le hz) (by show dl (1000000 * (ivK p I k).den) ≤ 73000; omega)
  exact ⟨mono _ zo, mono _ zo, by omega⟩
 have hK : (d : Int) ≤ I.den * 2 ^ (d.log2 + 1) := by
  have q1 := Nat.lt_log2_self (n := d)
  have q2 : ((d : Nat) : Int) < ((2 ^ (d.log2 + 1) : Nat) : Int) := Int.ofNat_lt.2 q1
  rw [Int.natCast_pow] at q2
  have q3 := Int.mul_le_mul_of_nonneg_right (show 1 ≤ I.den by omega) (show (0 : Int) ≤ 2 ^ (d.log2 + 1) from Int.le_of_lt (Int.pow_pos zo))
  rw [Int.one_mul] at q3
  have q4 : ((2 : Nat) : Int) = 2 := rfl
  rw [q4] at q2
  omega
 refine ⟨max 64 (d.log2 + 1), Nat.le_max_left _ _, fun k hk => ?_, fun k hk => ?_⟩
 ·refine h.told hcl hc0 hF1 hF3 ?_
  rw [← hd]
  refine Int.le_trans hK (Int.mul_le_mul_of_nonneg_left ?_ zo)
  have : (2 : Nat) ^ (d.log2 + 1) ≤ 2 ^ k := Nat.pow_le_pow_right zo zo
  have := Int.ofNat_le.2 this
  rw [Int.natCast_pow, Int.natCast_pow] at this
  exact this
 ·refine size k ?_
  have hm : dl ((2 ^ k : Nat) : Int) ≤ dl ((2 ^ (max 64 (d.log2 + 1)) : Nat) : Int) := dlN_le (Nat.pow_le_pow_right zo hk)
  refine Nat.le_trans hm ?_
  rcases Nat.le_total 64 (d.log2 + 1) with q | q
  ·rw [Nat.max_eq_right q]
   have q1 := Nat.log2_self_le hd0
   have q2 : 2 ^ (d.log2 + 1) ≤ 2 * d := by rw [Nat.pow_succ]; omega
   have q3 := dlN_le q2
   have q4 := dlN_mul 2 d
   have q5 := dlN_small (x := 2) zo
   omega
  ·rw [Nat.max_eq_left q]
   exact Nat.le_trans (dlN_pow (x := 2) (k := 64) (dlN_small zo)) zo
end
theorem ivK_add {p : List Int} {I : Iv} {j : Nat} : ∀ {k : Nat}, ivK p (ivK p I j) k = ivK p I (j + k)
 | 0 => rfl
 | k + 1 => by rw [ivK, ivK_add]; rfl
theorem sgnF_ivK {p : List Int} {I : Iv} {cs : List Int} {j : Nat} (hI : I.Ok) : sgnF p (ivK p I j) cs = sgnF p I cs := by
 unfold sgnF
 have e1 : (∃ k, 0 < (enc (ivK p (ivK p I j) k) cs).1) ↔ ∃ k, 0 < (enc (ivK p I k) cs).1 :=
  ⟨fun ⟨k, hk⟩ => ⟨j + k, by rw [← ivK_add]; exact hk⟩, fun ⟨k, hk⟩ => ⟨k, by rw [ivK_add]; exact encK_pos hI (Nat.le_add_left k j) hk⟩⟩
 have e2 : (∃ k, (enc (ivK p (ivK p I j) k) cs).2.1 < 0) ↔ ∃ k, (enc (ivK p I k) cs).2.1 < 0 :=
  ⟨fun ⟨k, hk⟩ => ⟨j + k, by rw [← ivK_add]; exact hk⟩, fun ⟨k, hk⟩ => ⟨k, by rw [ivK_add]; exact encK_neg hI (Nat.le_add_left k j) hk⟩⟩
 by_cases h1 : ∃ k, 0 < (enc (ivK p I k) cs).1
 ·rw [if_pos (e1.2 h1), if_pos h1]
 ·rw [if_neg (fun h => h1 (e1.1 h)), if_neg h1]
  by_cases h2 : ∃ k, (enc (ivK p I k) cs).2.1 < 0
  ·rw [if_pos (e2.2 h2), if_pos h2]
  ·rw [if_neg (fun h => h2 (e2.1 h)), if_neg h2]
noncomputable def sgV (p : List Int) (I : Iv) (v : NvT) : Int := if ratB v.1 = true then cmpZ (nth v.1 0) 0 else sgnF p I (v.1.take (p.length - 1))
theorem rat_ne {p : List Int} {v : NvT} (_ : 3 ≤ p.length) (hv : RedN p v) (h : ratB v.1 ≠ true) : (v.1.take (p.length - 1)).length = min (p.length - 1) 4 ∧ ∃ c ∈ v.1.take (p.length - 1), c ≠ 0 := by
 have hl := hv.len
 refine ⟨by rw [List.length_take, hl], ?_⟩
 refine Classical.byContradiction fun hn => h (ratB_of fun i h1 h2 => ?_)
 by_cases hi : i < p.length - 1
 ·refine Classical.byContradiction fun h0 => hn ⟨nth v.1 i, ?_, h0⟩
  rw [← nth_take' hi]
  exact nth_mem' (by rw [List.length_take, hl]; omega)
 ·exact hv.hi i zo
theorem dl_min4 {a b c d : Int} {n : Nat} (h1 : dl a ≤ n) (h2 : dl b ≤ n) (h3 : dl c ≤ n) (h4 : dl d ≤ n) : dl (min4 a b c d) ≤ n ∧ dl (max4 a b c d) ≤ n := by
 have key : ∀ x : Int, x = a ∨ x = b ∨ x = c ∨ x = d → dl x ≤ n := fun x hx => by rcases hx with rfl | rfl | rfl | rfl <;> assumption
 exact ⟨key _ (by unfold min4; omega), key _ (by unfold max4; omega)⟩
def encK (I : Iv) (cs : List Int) (k : Nat) : Int × Int × Int := enc I (cs.drop (cs.length - k))
theorem encK_zero {I : Iv} {cs : List Int} : encK I cs 0 = (0, 0, 1) := by unfold encK; rw [Nat.sub_zero, List.drop_length]; rfl
theorem encK_end {I : Iv} {cs : List Int} : encK I cs cs.length = enc I cs := by unfold encK; rw [Nat.sub_self, List.drop_zero]
theorem encK_step {I : Iv} {cs : List Int} {k : Nat} (hk : k < cs.length) : encK I cs (k + 1) = (min4 ((encK I cs k).1 * I.lo) ((encK I cs k).1 * I.hi) ((encK I cs k).2.1 * I.lo) ((encK I cs k).2.1 * I.hi) + nth cs (cs.length - 1 - k) * ((encK I cs k).2.2 * I.den), max4 ((encK I cs k).1 * I.lo) ((encK I cs k).1 * I.hi) ((encK I cs k).2.1 * I.lo) ((encK I cs k).2.1 * I.hi) + nth cs (cs.length - 1 - k) * ((encK I cs k).2.2 * I.den), (encK I cs k).2.2 * I.den) := by
 unfold encK
 rw [drop_step hk]
 rfl
theorem encK_dl {I : Iv} {cs : List Int} {A C : Nat} (h1 : dl I.lo ≤ A) (h2 : dl I.hi ≤ A) (h3 : dl I.den ≤ A) (hc : ∀ i, dl (nth cs i) ≤ C) : ∀ {k : Nat}, k ≤ cs.length → dl (encK I cs k).1 ≤ k * (A + 1) + C + 1 ∧ dl (encK I cs k).2.1 ≤ k * (A + 1) + C + 1 ∧ dl (encK I cs k).2.2 ≤ k * A + 1
 | 0, _ => by
  rw [encK_zero]
  have h0 : dl (0 : Int) = 0 := dl_zero.2 rfl
  have h1 := dl_small (F := 1) zo zo
  exact ⟨by show dl 0 ≤ _; omega, by show dl 0 ≤ _; omega, by show dl 1 ≤ _; omega⟩
 | k + 1, hk => by
  obtain ⟨q1, q2, q3⟩ := encK_dl h1 h2 h3 hc (k := k) zo
  rw [encK_step zo]
  have m1 := dl_mul (encK I cs k).1 I.lo
  have m2 := dl_mul (encK I cs k).1 I.hi
  have m3 := dl_mul (encK I cs k).2.1 I.lo
  have m4 := dl_mul (encK I cs k).2.1 I.hi
  have m5 := dl_mul (encK I cs k).2.2 I.den
  have m6 := dl_mul (nth cs (cs.length - 1 - k)) ((encK I cs k).2.2 * I.den)
  have m7 := hc (cs.length - 1 - k)
  have e1 : (k + 1) * (A + 1) = k * (A + 1) + A + 1 := by rw [Nat.succ_mul]; omega
  have e2 : (k + 1) * A = k * A + A := Nat.succ_mul _ _
  have e3 : k * (A + 1) = k * A + k := by rw [Nat.mul_add, Nat.mul_one]
  obtain ⟨u1, u2⟩ := dl_min4 (n := k * (A + 1) + C + 1 + A) (a := (encK I cs k).1 * I.lo) (b := (encK I cs k).1 * I.hi) (c := (encK I cs k).2.1 * I.lo) (d := (encK I cs k).2.1 * I.hi) zo zo zo zo
  have s1 := dl_add (min4 ((encK I cs k).1 * I.lo) ((encK I cs k).1 * I.hi) ((encK I cs k).2.1 * I.lo) ((encK I cs k).2.1 * I.hi)) (nth cs (cs.length - 1 - k) * ((encK I cs k).2.2 * I.den))
  have s2 := dl_add (max4 ((encK I cs k).1 * I.lo) ((encK I cs k).1 * I.hi) ((encK I cs k).2.1 * I.lo) ((encK I cs k).2.1 * I.hi)) (nth cs (cs.length - 1 - k) * ((encK I cs k).2.2 * I.den))
  refine ⟨?_, ?_, ?_⟩
  ·show dl (_ + _) ≤ _; omega
  ·show dl (_ + _) ≤ _; omega
  ·show dl (_ * _) ≤ _; omega
end Go.Fl

/- Contracts: enclosures are halved until the sign is told. -/
namespace Go.Fl
open Go Go.Proofs
open TrL renaming op → tO
open RunD renaming op → rO
set_option maxRecDepth 100000

def mnW (xs : List Int) : Nat → Int
 | 0 => nth xs 0
 | k + 1 => if nth xs (k + 1) < mnW xs k then nth xs (k + 1) else mnW xs k
def mxW (xs : List Int) : Nat → Int
 | 0 => nth xs 0
 | k + 1 => if mxW xs k < nth xs (k + 1) then nth xs (k + 1) else mxW xs k
theorem mnW_mem {xs : List Int} : ∀ {k : Nat}, k < xs.length → mnW xs k ∈ xs ∧ mxW xs k ∈ xs
 | 0, h => ⟨nth_mem h, nth_mem h⟩
 | k + 1, h => by
  obtain ⟨h1, h2⟩ := mnW_mem (xs := xs) (k := k) zo
  rw [mnW, mxW]
  constructor
  ·split; exact nth_mem h; exact h1
  ·split; exact nth_mem h; exact h2
theorem mnW4 {a b c d : Int} : mnW [a, b, c, d] 3 = min4 a b c d ∧ mxW [a, b, c, d] 3 = max4 a b c d := by
 simp only [mnW, mxW, min4, max4, nth, List.getD_cons_succ, List.getD_cons_zero]
 constructor <;> (repeat' split) <;> omega
theorem cmZlt {a b : Int} : cmpZ a b < 0 ↔ a < b := by unfold cmpZ; split <;> (try split) <;> omega
theorem cmZgt {a b : Int} : 0 < cmpZ a b ↔ b < a := by unfold cmpZ; split <;> (try split) <;> omega
theorem sgE_F {p cs : List Int} {I : Iv} {k : Nat} (hI : I.Ok) (h : sgE (enc (ivK p I k) cs).1 (enc (ivK p I k) cs).2.1 0 ≠ 0) : sgE (enc (ivK p I k) cs).1 (enc (ivK p I k) cs).2.1 0 = sgnF p I cs := by
 unfold sgE at h ⊢
 by_cases h1 : 0 < cmpZ (enc (ivK p I k) cs).1 0
 ·rw [if_pos h1, sgnF_pos (cmZgt.1 h1)]
 ·rw [if_neg h1] at h ⊢
  by_cases h2 : cmpZ (enc (ivK p I k) cs).2.1 0 < 0
  ·rw [if_pos h2, sgnF_neg hI (cmZlt.1 h2)]
  ·rw [if_neg h2] at h; exact absurd rfl h
theorem sgE_told {a b : Int} (h : 0 < a ∨ b < 0) : sgE a b 0 ≠ 0 := by
 unfold sgE
 by_cases h1 : 0 < cmpZ a 0
 ·rw [if_pos h1]; decide
 ·rw [if_neg h1, if_pos (cmZlt.2 (h.resolve_left fun e => h1 (cmZgt.2 e)))]; decide
theorem ct_MinFuncW (xs : List Int) (f : FuncId) [TyFn Tryz.prog f] (hl : 1 ≤ xs.length) (hf : ∀ a b, a ∈ xs → b ∈ xs → Ct Tryz.prog f [kRd eW (wh a), kRd eW (wh b)] (kI (cmpZ a b))) : Ct Tryz.prog 202 [kRd (eL eZ) xs, kDet (.func (.func f) #[] #[])] (kRd eW (wh (mnW xs (xs.length - 1)))) := by
 refine Ct.mk Tryz.func202 rfl Tryz.ntmps202 rfl (fun w J => ?_); refine Tr.fact (s := 0) rfl (fun _ _ h => lenB h) (fun hb => ?_); refine jx2 ?_; refine ja 4 ?_; refine jx10 ?_; refine jq ?_ ?_
 ·intro h1
  omega
 ·intro h1
  replace h1 := Int.not_lt.1 h1
  refine jx7 ?_; refine ja 5 ?_; refine jx9 ?_
  refine Tr.for1 (σ := Nat) [⟨0, true, _, _⟩, ⟨1, true, _, _⟩, ⟨4, true, _, _⟩, ⟨5, true, _, _⟩] [⟨4, _, _⟩] (fun j => [⟨6, true, [], kI ((j : Int) + 1)⟩]) (fun j => [⟨5, [], cBlk [kB (decide ((mnW xs j) < 0)), kRd (eL eI) (digN ((mnW xs j)).natAbs)]⟩]) (fun j => j + 1 ≤ xs.length) (fun j => j + 1 = xs.length) (fun j => xs.length - j) (0) zi (Ent.mk (.i rfl zi <| zk) (zk) rfl) ?_ ?_
  ·intro j hR0
   refine jn ?_
   have hjn : ((j : Int) + 1).toNat = j + 1 := by omega
   refine jx9 ?_; refine jq ?_ ?_
   ·intro h5
    refine jx5 ?_; refine Tr.draw 6 mixed (by kernel_rfl) ?_; refine jx7 ?_; refine tO (ok_callV rfl uu (fun hp => hf _ _ (nth_mem (i := j + 1) zo) (mnW_mem zo).1) (.a rfl uu <| .se rfl uu rfl rfl <| .nil)) rfl rfl ?_; refine jx3 ?_; refine jq ?_ ?_
    ·intro h7
     have hK : mnW xs (j + 1) = nth xs (j + 1) := by rw [mnW, if_pos (cmZlt.1 h7)]
     refine jx14 ?_
     exact End.lp (j + 1) zi zo (Ent.mk (.i rfl zi <| zk) (.e (by rw [hK, hjn]) rfl <| zk) rfl)
    ·intro h7
     replace h7 := Int.not_lt.1 h7
     have hK : mnW xs (j + 1) = mnW xs j := by rw [mnW, if_neg (fun e => absurd (cmZlt.2 e) zo)]
     refine jx8 ?_
     exact End.lp (j + 1) zi zo (Ent.mk (.i rfl zi <| zk) (.e (by rw [hK]) rfl <| zk) rfl)
   ·intro h5
    replace h5 := Int.not_lt.1 h5
    refine jx4 ?_
    exact End.cut (j) zo (Ent.mk (.i rfl zi <| zk) (zk) rfl)
  ·intro j hE0
   refine je ?_; refine jx8 ?_; exact Rts.resC1 (fn := Tryz.f202) rfl rfl (aggRd rfl (by rw [show xs.length - 1 = j by omega]; rfl))

theorem ct_MaxFuncW (xs : List Int) (f : FuncId) [TyFn Tryz.prog f] (hl : 1 ≤ xs.length) (hf : ∀ a b, a ∈ xs → b ∈ xs → Ct Tryz.prog f [kRd eW (wh a), kRd eW (wh b)] (kI (cmpZ a b))) : Ct Tryz.prog 204 [kRd (eL eZ) xs, kDet (.func (.func f) #[] #[])] (kRd eW (wh (mxW xs (xs.length - 1)))) := by
 refine Ct.mk Tryz.func204 rfl Tryz.ntmps204 rfl (fun w J => ?_); refine Tr.fact (s := 0) rfl (fun _ _ h => lenB h) (fun hb => ?_); refine jx2 ?_; refine ja 4 ?_; refine jx10 ?_; refine jq ?_ ?_
 ·intro h1
  omega
 ·intro h1
  replace h1 := Int.not_lt.1 h1
  refine jx7 ?_; refine ja 5 ?_; refine jx9 ?_
  refine Tr.for1 (σ := Nat) [⟨0, true, _, _⟩, ⟨1, true, _, _⟩, ⟨4, true, _, _⟩, ⟨5, true, _, _⟩] [⟨4, _, _⟩] (fun j => [⟨6, true, [], kI ((j : Int) + 1)⟩]) (fun j => [⟨5, [], cBlk [kB (decide ((mxW xs j) < 0)), kRd (eL eI) (digN ((mxW xs j)).natAbs)]⟩]) (fun j => j + 1 ≤ xs.length) (fun j => j + 1 = xs.length) (fun j => xs.length - j) (0) zi (Ent.mk (.i rfl zi <| zk) (zk) rfl) ?_ ?_
  ·intro j hR0
   refine jn ?_
   have hjn : ((j : Int) + 1).toNat = j + 1 := by omega
   refine jx9 ?_; refine jq ?_ ?_
   ·intro h5
    refine jx5 ?_; refine Tr.draw 6 mixed (by kernel_rfl) ?_; refine jx7 ?_; refine tO (ok_callV rfl uu (fun hp => hf _ _ (nth_mem (i := j + 1) zo) (mnW_mem zo).2) (.a rfl uu <| .se rfl uu rfl rfl <| .nil)) rfl rfl ?_; refine jx3 ?_; refine jq ?_ ?_
    ·intro h7
     have hK : mxW xs (j + 1) = nth xs (j + 1) := by rw [mxW, if_pos (cmZgt.1 h7)]
     refine jx14 ?_
     exact End.lp (j + 1) zi zo (Ent.mk (.i rfl zi <| zk) (.e (by rw [hK, hjn]) rfl <| zk) rfl)
    ·intro h7
     replace h7 := Int.not_lt.1 h7
     have hK : mxW xs (j + 1) = mxW xs j := by rw [mxW, if_neg (fun e => absurd (cmZgt.2 e) zo)]
     refine jx8 ?_
     exact End.lp (j + 1) zi zo (Ent.mk (.i rfl zi <| zk) (.e (by rw [hK]) rfl <| zk) rfl)
   ·intro h5
    replace h5 := Int.not_lt.1 h5
    refine jx4 ?_
    exact End.cut (j) zo (Ent.mk (.i rfl zi <| zk) (zk) rfl)
  ·intro j hE0
   refine je ?_; refine jx8 ?_; exact Rts.resC1 (fn := Tryz.f204) rfl rfl (aggRd rfl (by rw [show xs.length - 1 = j by omega]; rfl))

set_option maxHeartbeats 2000000 in
theorem ct_decide (r : RlT) (v : NvT) (I : Iv) (cs : List Int) (K : Nat) (sg : Int) (hpo : PolOk r.2.1) (hI : I = ⟨r.2.2.2.1, r.2.2.2.2.1, r.2.2.2.2.2⟩) (hcs : cs = v.1.take (r.2.1.length - 1)) (hvl : v.1.length = 4) (hvb : NBd 540 v) (hsz : ∀ k, k ≤ K → dl (ivK r.2.1 I k).lo ≤ 73000 ∧ dl (ivK r.2.1 I k).hi ≤ 73000 ∧ dl (ivK r.2.1 I k).den ≤ 73000) (htl : ∀ k, K ≤ k → sgE (enc (ivK r.2.1 I k) cs).1 (enc (ivK r.2.1 I k) cs).2.1 0 ≠ 0) (hsg : ∀ k, sgE (enc (ivK r.2.1 I k) cs).1 (enc (ivK r.2.1 I k) cs).2.1 0 ≠ 0 → sgE (enc (ivK r.2.1 I k) cs).1 (enc (ivK r.2.1 I k) cs).2.1 0 = sg) : CtL Tryz.prog 181 [kPtr eReal r, kRd eNu v, kClo 182 [kOwn 0 0]] (cBlk [kI 0]) (cBlk [kI sg]) (kDet (.tuple #[])) := by
 have hp5 := hpo.1.2
 have hp2 := hpo.1.1
 have hcl : cs.length = r.2.1.length - 1 := by rw [hcs, List.length_take, hvl]; omega
 have hcx : List.take ((r.2.1.length : Int) - 1).toNat (tab 4 (nth v.1), v.2).1 = cs := by rw [hcs]; show List.take _ (tab 4 (nth v.1)) = _; rw [← tab_nth hvl]; congr 1; omega
 have hcd : ∀ i, dl (nth cs i) ≤ 540 := fun i => by rw [hcs]; by_cases h : i < r.2.1.length - 1; (rw [nth_take' h]; exact hvb.c i); (rw [nth_out (by rw [List.length_take]; omega)]; show dl 0 ≤ 540; rw [dl_zero.2 rfl]; omega)
 have hI0 : ivK r.2.1 I 0 = I := rfl
 refine CtL.mkM Tryz.func181 rfl Tryz.ntmps181 rfl rfl (fun w J bb cap => ?_); refine jn ?_; refine jx2 ?_; refine jb 4 rfl ?_; refine jx3 ?_; refine Tr.frzBL 4 [4] eNu (s := 568) rfl rfl ⟨rfl, trivial⟩ rfl ?_; refine jn ?_; refine jx2 ?_; refine tO (ok_nilP rfl uu) rfl rfl ?_; refine jx1 ?_; refine ja 6 ?_; refine jx3 ?_
 refine Tr.for1 (σ := Nat) [⟨0, true, _, _⟩, ⟨2, true, _, _⟩, ⟨4, true, _, _⟩, ⟨568, true, _, _⟩] [] (fun k => [⟨6, true, [6], kOwn 6 0⟩]) (fun k => [⟨6, [], cBlk [kRd (eL eI) r.1.1, kI r.1.2.1, kI r.1.2.2.1, kI r.1.2.2.2, kRd (eL eZ) r.2.1, kRd (eL eZ) r.2.2.1, kB (decide ((ivK r.2.1 I k).lo < 0)), kRd (eL eI) (digN ((ivK r.2.1 I k).lo).natAbs), kB (decide ((ivK r.2.1 I k).hi < 0)), kRd (eL eI) (digN ((ivK r.2.1 I k).hi).natAbs), kB (decide ((ivK r.2.1 I k).den < 0)), kRd (eL eI) (digN ((ivK r.2.1 I k).den).natAbs)]⟩, ⟨0, [], cBlk [kI 0]⟩]) (fun k => k ≤ K) (fun k => False) (fun k => K - k) (0) zi (Ent.mk (zk) (.e (by rw [hI0, hI]) rfl <| zk) rfl) ?_ ?_
 ·intro k hR0
  refine jn ?_
  have hz := hsz k hR0
  refine jx4 ?_; refine tO (ok_build (fun hp => .nil)) rfl rfl ?_; refine tO (ok_build (fun hp => .nil)) rfl rfl ?_; refine jc (ct_fsmall 1 zo) ?_; refine ja 7 ?_; refine ja 8 ?_; refine ja 9 ?_; refine jx10 ?_; refine jc (ct_degree r hpo.1) ?_; refine tO (ok_slArrPh rfl uu rfl uu rfl rfl (fun _ => zo)) rfl rfl ?_; refine tO (ok_call (fun hp => ct_backW _) (.a rfl uu <| .nil)) rfl rfl ?_
  rw [hcx]
  refine jx3 ?_
  refine Tr.back (e := eZ) (xs := cs) back_wholes [⟨0, true, _, _⟩, ⟨2, true, _, _⟩, ⟨4, true, _, _⟩, ⟨6, true, _, _⟩, ⟨7, true, _, _⟩, ⟨8, true, _, _⟩, ⟨9, true, _, _⟩, ⟨24, true, _, _⟩, ⟨568, true, _, _⟩] [6, 7, 8, 9, 0] (fun j => [⟨6, [], cBlk [kRd (eL eI) r.1.1, kI r.1.2.1, kI r.1.2.2.1, kI r.1.2.2.2, kRd (eL eZ) r.2.1, kRd (eL eZ) r.2.2.1, kB (decide ((ivK r.2.1 I k).lo < 0)), kRd (eL eI) (digN ((ivK r.2.1 I k).lo).natAbs), kB (decide ((ivK r.2.1 I k).hi < 0)), kRd (eL eI) (digN ((ivK r.2.1 I k).hi).natAbs), kB (decide ((ivK r.2.1 I k).den < 0)), kRd (eL eI) (digN ((ivK r.2.1 I k).den).natAbs)]⟩, ⟨7, [], cBlk [kB (decide ((encK (ivK r.2.1 I k) cs j).1 < 0)), kRd (eL eI) (digN ((encK (ivK r.2.1 I k) cs j).1).natAbs)]⟩, ⟨8, [], cBlk [kB (decide ((encK (ivK r.2.1 I k) cs j).2.1 < 0)), kRd (eL eI) (digN ((encK (ivK r.2.1 I k) cs j).2.1).natAbs)]⟩, ⟨9, [], cBlk [kB (decide ((encK (ivK r.2.1 I k) cs j).2.2 < 0)), kRd (eL eI) (digN ((encK (ivK r.2.1 I k) cs j).2.2).natAbs)]⟩, ⟨0, [], cBlk [kI 0]⟩]) (fun j => [⟨6, [], cBlk [kRd (eL eI) r.1.1, kI r.1.2.1, kI r.1.2.2.1, kI r.1.2.2.2, kRd (eL eZ) r.2.1, kRd (eL eZ) r.2.2.1, kB (decide ((ivK r.2.1 I k).lo < 0)), kRd (eL eI) (digN ((ivK r.2.1 I k).lo).natAbs), kB (decide ((ivK r.2.1 I k).hi < 0)), kRd (eL eI) (digN ((ivK r.2.1 I k).hi).natAbs), kB (decide ((ivK r.2.1 I k).den < 0)), kRd (eL eI) (digN ((ivK r.2.1 I k).den).natAbs)]⟩, ⟨7, [], cBlk [kB (decide ((encK (ivK r.2.1 I k) cs j).1 < 0)), kRd (eL eI) (digN ((encK (ivK r.2.1 I k) cs j).1).natAbs)]⟩, ⟨8, [], cBlk [kB (decide ((encK (ivK r.2.1 I k) cs j).2.1 < 0)), kRd (eL eI) (digN ((encK (ivK r.2.1 I k) cs j).2.1).natAbs)]⟩, ⟨9, [], cBlk [kB (decide ((encK (ivK r.2.1 I k) cs j).2.2 < 0)), kRd (eL eI) (digN ((encK (ivK r.2.1 I k) cs j).2.2).natAbs)]⟩, ⟨0, [], cBlk [kI 0]⟩]) (fun j => True) (fun j => False) (Ent.mk (.k rfl rfl <| .k rfl rfl <| .k rfl rfl <| .k rfl rfl <| .k rfl rfl <| .k rfl rfl <| .k rfl rfl <| .k rfl rfl <| .k rfl rfl <| .nil) (.k rfl <| .conv (cB_zero (by rw [encK_zero])) rfl <| .conv (cB_zero (by rw [encK_zero])) rfl <| .conv (cB_eq (dcell (by rw [encK_zero]))) rfl <| .k rfl <| .nil) rfl) rfl rfl (fun _ => rfl) (fun _ => rfl) (fun _ => inferInstance) (fun _ => inferInstance) rfl zi ?_ ?_ ?_
  ·intro j hk24 hR24 l24 w24 J24 b24 bks24
   refine jn ?_
   have hb := encK_dl (A := 73000) (C := 540) hz.1 hz.2.1 hz.2.2 hcd (k := j) zo
   have hj5 : j * (73000 + 1) ≤ 4 * 73001 := Nat.mul_le_mul zo zo
   have hj6 : j * 73000 ≤ 4 * 73000 := Nat.mul_le_mul zo zo
   have hcj := hcd (cs.length - 1 - j)
   have hm1 := dl_mul (encK (ivK r.2.1 I k) cs j).1 (ivK r.2.1 I k).lo
   have hm2 := dl_mul (encK (ivK r.2.1 I k) cs j).1 (ivK r.2.1 I k).hi
   have hm3 := dl_mul (encK (ivK r.2.1 I k) cs j).2.1 (ivK r.2.1 I k).lo
   have hm4 := dl_mul (encK (ivK r.2.1 I k) cs j).2.1 (ivK r.2.1 I k).hi
   have hm5 := dl_mul (encK (ivK r.2.1 I k) cs j).2.2 (ivK r.2.1 I k).den
   have hm6 := dl_mul (nth cs (cs.length - 1 - j)) ((encK (ivK r.2.1 I k) cs j).2.2 * (ivK r.2.1 I k).den)
   have hco : ∀ x ∈ ([(encK (ivK r.2.1 I k) cs j).1 * (ivK r.2.1 I k).lo, (encK (ivK r.2.1 I k) cs j).1 * (ivK r.2.1 I k).hi, (encK (ivK r.2.1 I k) cs j).2.1 * (ivK r.2.1 I k).lo, (encK (ivK r.2.1 I k) cs j).2.1 * (ivK r.2.1 I k).hi] : List Int), dl x ≤ 800000 := fun x hx => by simp only [List.mem_cons, List.not_mem_nil, or_false] at hx; rcases hx with rfl | rfl | rfl | rfl <;> omega
   refine jx1 ?_; refine ja 11 ?_; refine jx2 ?_; refine End.asg (fun w1024 J1024 b1024 => ?_); refine jn ?_; refine jx2 ?_; refine Tr.draw 15 mixed (by kernel_rfl) ?_; refine jx3 ?_; refine jd (ct_wtimes (encK (ivK r.2.1 I k) cs j).1 (ivK r.2.1 I k).lo zo zo) ?_; refine jx3 ?_; refine jd (ct_wtimes (encK (ivK r.2.1 I k) cs j).1 (ivK r.2.1 I k).hi zo zo) ?_; refine jx3 ?_; refine jd (ct_wtimes (encK (ivK r.2.1 I k) cs j).2.1 (ivK r.2.1 I k).lo zo zo) ?_; refine jx4 ?_; refine jc (ct_wtimes (encK (ivK r.2.1 I k) cs j).2.1 (ivK r.2.1 I k).hi zo zo) ?_
   refine tO (ok_bslJ eZ (fun hp => .cons rfl <| .cons rfl <| .cons rfl <| .cons rfl <| .nil) rfl rfl rfl rfl) rfl rfl ?_; refine jx8 ?_; refine jc (ct_wtimes (encK (ivK r.2.1 I k) cs j).2.2 (ivK r.2.1 I k).den zo zo) ?_; refine jx7 ?_; refine jc (ct_wtimes (nth cs (cs.length - 1 - j)) ((encK (ivK r.2.1 I k) cs j).2.2 * (ivK r.2.1 I k).den) zo zo) ?_; refine jx3 ?_; refine Tr.draw 7 mixed (by kernel_rfl) ?_; refine jx1 ?_; refine jd (ct_MinFuncW [(encK (ivK r.2.1 I k) cs j).1 * (ivK r.2.1 I k).lo, (encK (ivK r.2.1 I k) cs j).1 * (ivK r.2.1 I k).hi, (encK (ivK r.2.1 I k) cs j).2.1 * (ivK r.2.1 I k).lo, (encK (ivK r.2.1 I k) cs j).2.1 * (ivK r.2.1 I k).hi] 203 (by simp) (fun x y hx hy => ct_fcompare x y (hco x hx) (hco y hy))) ?_
   refine jx1 ?_; refine rO (ok_call (fun hp => ct_wplus (mnW [(encK (ivK r.2.1 I k) cs j).1 * (ivK r.2.1 I k).lo, (encK (ivK r.2.1 I k) cs j).1 * (ivK r.2.1 I k).hi, (encK (ivK r.2.1 I k) cs j).2.1 * (ivK r.2.1 I k).lo, (encK (ivK r.2.1 I k) cs j).2.1 * (ivK r.2.1 I k).hi] 3) ((nth cs (cs.length - 1 - j)) * ((encK (ivK r.2.1 I k) cs j).2.2 * (ivK r.2.1 I k).den)) (Nat.le_trans (hco _ (mnW_mem (by simp)).1) zo) zo) (.a rfl uu <| .se rfl uu rfl rfl <| .nil)) rfl rfl ?_; refine jx1 ?_; refine jd (ct_MaxFuncW [(encK (ivK r.2.1 I k) cs j).1 * (ivK r.2.1 I k).lo, (encK (ivK r.2.1 I k) cs j).1 * (ivK r.2.1 I k).hi, (encK (ivK r.2.1 I k) cs j).2.1 * (ivK r.2.1 I k).lo, (encK (ivK r.2.1 I k) cs j).2.1 * (ivK r.2.1 I k).hi] 203 (by simp) (fun x y hx hy => ct_fcompare x y (hco x hx) (hco y hy))) ?_
   refine jx2 ?_; refine tO (ok_call (fun hp => ct_wplus (mxW [(encK (ivK r.2.1 I k) cs j).1 * (ivK r.2.1 I k).lo, (encK (ivK r.2.1 I k) cs j).1 * (ivK r.2.1 I k).hi, (encK (ivK r.2.1 I k) cs j).2.1 * (ivK r.2.1 I k).lo, (encK (ivK r.2.1 I k) cs j).2.1 * (ivK r.2.1 I k).hi] 3) ((nth cs (cs.length - 1 - j)) * ((encK (ivK r.2.1 I k) cs j).2.2 * (ivK r.2.1 I k).den)) (Nat.le_trans (hco _ (mnW_mem (by simp)).2) zo) zo) (.a rfl uu <| .se rfl uu rfl rfl <| .nil)) rfl rfl ?_; refine jx4 ?_; exact End.rnd trivial (Ent.mk (zk) (.k rfl <| .conv (cB_eq (dcell (by rw [encK_step zo, mnW4.1]))) rfl <| .conv (cB_eq (dcell (by rw [encK_step zo, mnW4.2]))) rfl <| .conv (cB_eq (dcell (by rw [encK_step zo]))) rfl <| zk) rfl)
  ·intro hE24
   refine je ?_
   have hbe := encK_dl (A := 73000) (C := 540) hz.1 hz.2.1 hz.2.2 hcd (k := cs.length) (Nat.le_refl _)
   have hj7 : cs.length * (73000 + 1) ≤ 4 * 73001 := Nat.mul_le_mul zo zo
   have hj8 : cs.length * 73000 ≤ 4 * 73000 := Nat.mul_le_mul zo zo
   have hvd := hvb.d
   refine jx3 ?_; refine Tr.draw 7 mixed (by kernel_rfl) ?_; refine jx6 ?_; refine jd (ct_wtimes (encK (ivK r.2.1 I k) cs cs.length).2.2 v.2 zo zo) ?_; refine jx1 ?_; refine TrL.loanLK (u := 0) (ct_sign1 (enc (ivK r.2.1 I k) cs).1 (enc (ivK r.2.1 I k) cs).2.1 ((encK (ivK r.2.1 I k) cs cs.length).2.2 * v.2) 0) rfl (.se rfl rfl (by rw [encK_end]; rfl) <| .se rfl rfl (by rw [encK_end]; rfl) <| .a rfl <| .nil) rfl rfl rfl ?_; refine jx2 ?_; refine Tr.cnd rfl ?_ ?_
   ·intro h10
    try simp only [decide_eq_true_eq, ne_eq] at h10
    have hsk := hsg k h10
    refine jx6 ?_; refine Rts.mk ?_; exact Rts.loan0 (fn := Tryz.f181) (s := 568) rfl rfl (by rw [hsk])
   ·intro h10
    try simp only [decide_eq_false_iff_not, ne_eq, Classical.not_not] at h10
    refine jx9 ?_; refine Tr.ent (S' := [⟨0, true, _, _⟩, ⟨2, true, _, _⟩, ⟨4, true, _, _⟩, ⟨7, true, _, _⟩, ⟨8, true, _, _⟩, ⟨9, true, _, _⟩, ⟨24, true, _, _⟩, ⟨568, true, _, _⟩, ⟨59, true, _, _⟩, ⟨60, true, _, _⟩, ⟨61, true, _, _⟩, ⟨62, true, _, _⟩, ⟨63, true, _, _⟩, ⟨64, true, _, _⟩, ⟨65, true, _, _⟩, ⟨66, true, _, _⟩, ⟨67, true, _, _⟩]) (M' := [⟨7, _, _⟩, ⟨8, _, _⟩, ⟨9, _, _⟩, ⟨0, _, _⟩]) (Ent.mk (zk) (zk) rfl) ?_; refine jx1 ?_; refine ja 6 ?_; refine jx4 ?_; refine TrL.mutP (ct_halve (kRd (eL eI) r.1.1) (kI r.1.2.1) (kI r.1.2.2.1) (kI r.1.2.2.2) (kRd (eL eZ) r.2.2.1) r.2.1 (ivK r.2.1 I k) 73000 zo hpo.2 hz.1 hz.2.1 hz.2.2 zo) rfl (.nil) (fun g b cap o h => cBlk_J (g := g) (g' := g1 g.J b cap) rfl h) (fun {J b cap o g} h => cBlk_J (g := g1 J b cap) (g' := ⟨J, g.M⟩) rfl h) rfl ?_
    refine jx1 ?_; exact End.lp (k + 1) (by have : k ≠ K := fun e => htl k zo h10; omega) (by have : k ≠ K := fun e => htl k zo h10; omega) (Ent.mk (zk) (.e (by rfl) rfl <| .e (by rw [h10]) rfl <| .nil) rfl)
  ·intro j hk24 hX24
   exact absurd hX24 id
 ·intro k hE0
  exact hE0.elim

end Go.Fl

/- Contracts: signs and comparisons of numbers of any field. -/
namespace Go.Fl
open Go Go.Proofs
open TrL renaming op → tO
open RunD renaming op → rO
set_option maxRecDepth 100000

theorem sign_fits {p : List Int} {I : Iv} {v : NvT} (hf : FldOk p I) (hv : RedN p v) (hb : NBd 540 v) (h : ratB v.1 ≠ true) : ∃ K, (∀ k, k ≤ K → dl (ivK p (ivK p I 64) k).lo ≤ 73000 ∧ dl (ivK p (ivK p I 64) k).hi ≤ 73000 ∧ dl (ivK p (ivK p I 64) k).den ≤ 73000) ∧ (∀ k, K ≤ k → sgE (enc (ivK p (ivK p I 64) k) (v.1.take (p.length - 1))).1 (enc (ivK p (ivK p I 64) k) (v.1.take (p.length - 1))).2.1 0 ≠ 0) ∧ ∀ k, sgE (enc (ivK p (ivK p I 64) k) (v.1.take (p.length - 1))).1 (enc (ivK p (ivK p I 64) k) (v.1.take (p.length - 1))).2.1 0 ≠ 0 → sgE (enc (ivK p (ivK p I 64) k) (v.1.take (p.length - 1))).1 (enc (ivK p (ivK p I 64) k) (v.1.take (p.length - 1))).2.1 0 = sgV p I v := by
 obtain ⟨h1, h2⟩ := rat_ne hf.three hv h
 have h5 := hf.len4
 obtain ⟨K, q1, q2, q3⟩ := hf.bound (M := 540) zo h2 (fun c hc => by
  obtain ⟨i, hi, rfl⟩ := List.mem_iff_getElem.1 hc
  have e : (v.1.take (p.length - 1))[i] = nth v.1 i := by
   rw [List.length_take] at hi
   rw [List.getElem_take]
   have : i < v.1.length := by omega
   simp [nth, this]
  rw [e]; exact hb.c i) zo zo
 refine ⟨K - 64, fun k hk => ?_, fun k hk => ?_, fun k hk => ?_⟩
 ·rw [ivK_add]; exact q3 (64 + k) zo
 ·rw [ivK_add]; exact sgE_told (q2 (64 + k) zo)
 ·rw [sgE_F (ivK_ok hf.iv) hk, sgnF_ivK hf.iv]
  unfold sgV
  rw [if_neg h]
theorem ct_fsign (r : RlT) (I : Iv) (v : NvT) (hf : FldOk r.2.1 I) (hI : ivK r.2.1 I 64 = ⟨r.2.2.2.1, r.2.2.2.2.1, r.2.2.2.2.2⟩) (hv : RedN r.2.1 v) (hb : NBd 540 v) : Ct Tryz.prog 139 [kPtr eReal r, kRd eNu v] (kI (sgV r.2.1 I v)) := by
 have hl : v.1.length = 4 := hv.len
 refine Ct.mk Tryz.func139 rfl Tryz.ntmps139 rfl (fun w J => ?_); refine jx2 ?_; refine jb 3 rfl ?_; refine jx7 ?_; refine tO (ok_call (fun hp => ct_rational v.1 v.2) (.se rfl uu rfl (eta4 hl) <| .nil)) rfl rfl ?_; refine jx2 ?_; refine Tr.cnd rfl ?_ ?_
 ·intro h1
  have hs : sgV r.2.1 I v = cmpZ (nth v.1 0) 0 := if_pos h1
  refine jx3 ?_; refine tO (ok_idxArrO rfl uu rfl uu (fun _ => by decide)) rfl rfl ?_; refine tO (ok_ldW (0) (fun _ => zo) (fun _ => zo) rfl uu) rfl rfl ?_; refine jc (ct_wsign (nth v.1 0)) ?_; refine jx5 ?_; exact Rts.res1 (fn := Tryz.f139) rfl (.i rfl (by rw [hs]) <| .nil)
 ·intro h1
  obtain ⟨K, k1, k2, k3⟩ := sign_fits hf hv hb (by rw [h1]; decide)
  refine jx4 ?_; refine ja 5 ?_; refine jx7 ?_; refine tO (ok_clo (.cons rfl uu <| .nil)) rfl rfl ?_; refine TrL.loanL (u := 5) (ct_decide r v (ivK r.2.1 I 64) (v.1.take (r.2.1.length - 1)) K (sgV r.2.1 I v) hf.pol hI rfl hl hb k1 k2 k3) (.a rfl <| .se rfl rfl (eta4 hl) <| .a rfl <| .nil) rfl rfl ?_; refine jx9 ?_; exact Rts.res1 (fn := Tryz.f139) rfl (.i rfl (by rfl) <| .nil)

theorem ct_fSignF (r : RlT) (I : Iv) (x : NumT) (hf : FldOk r.2.1 I) (hI : ivK r.2.1 I 64 = ⟨r.2.2.2.1, r.2.2.2.2.1, r.2.2.2.2.2⟩) (hx : NumOk 250 x) : Ct Tryz.prog 82 [kPtr eReal r, kRd eNum x] (kI (sgV r.2.1 I (takeN r.2.1 x))) := by
 have hpo := hf.pol
 have nx := take_NBd hpo hx
 have rx := take_RedN (p := r.2.1) (x := x) hpo
 refine Ct.mk Tryz.func82 rfl Tryz.ntmps82 rfl (fun w J => ?_); refine jx2 ?_; refine jb 3 rfl ?_; refine jx7 ?_; refine tO (ok_eqlPn rfl uu) rfl rfl ?_; refine jx2 ?_; refine Tr.cnd rfl ?_ ?_
 ·intro h1
  cases h1
 ·intro h1
  refine jx7 ?_; refine jc (ct_take r x 250 hpo hx zo) ?_; refine jc (ct_fsign r I (takeN r.2.1 x) hf hI rx (nx.mono zo)) ?_; refine jx4 ?_
  exact Rts.res1 (fn := Tryz.f82) rfl (.i rfl zi <| .nil)

theorem ct_fCmpF (r : RlT) (I : Iv) (x y : NumT) (hf : FldOk r.2.1 I) (hI : ivK r.2.1 I 64 = ⟨r.2.2.2.1, r.2.2.2.2.1, r.2.2.2.2.2⟩) (hx : NumOk 250 x) (hy : NumOk 250 y) : Ct Tryz.prog 83 [kPtr eReal r, kRd eNum x, kRd eNum y] (kI (sgV r.2.1 I (subV (takeN r.2.1 x) (takeN r.2.1 y)))) := by
 have hpo := hf.pol
 have hk : 250 ≤ 100000 := by omega
 have nx := take_NBd hpo hx
 have ny := take_NBd hpo hy
 have nn := neg_NBd ny
 have nz := add_NBd nx nn
 have rx := take_RedN (p := r.2.1) (x := x) hpo
 have ry := take_RedN (p := r.2.1) (x := y) hpo
 have rz := sub_RedN rx ry
 refine Ct.mk Tryz.func83 rfl Tryz.ntmps83 rfl (fun w J => ?_); refine jx2 ?_; refine jb 4 rfl ?_; refine jb 5 rfl ?_; refine jx7 ?_; refine tO (ok_eqlPn rfl uu) rfl rfl ?_; refine jx2 ?_; refine Tr.cnd rfl ?_ ?_
 ·intro h1
  cases h1
 ·intro h1
  refine jx3 ?_; refine Tr.draw 9 mixed (by kernel_rfl) ?_; refine jx3 ?_; refine jd (ct_take r x 250 hpo hx zo) ?_; refine jx2 ?_; refine jd (ct_take r y 250 hpo hy zo) ?_; refine jd (ct_nminus (takeN r.2.1 y).1 (takeN r.2.1 y).2) ?_; refine jd (ct_nplus (takeN r.2.1 x) ((takeN r.2.1 y).1.map (fun z => -z), (takeN r.2.1 y).2) (fun i => Nat.le_trans (nx.c i) zo) (fun i => Nat.le_trans (nn.c i) zo) (Nat.le_trans nx.d zo) (Nat.le_trans nn.d zo) nx.pos nn.pos) ?_; refine jx1 ?_; refine jc (ct_fsign r I (adV (takeN r.2.1 x) ((takeN r.2.1 y).1.map (fun z => -z), (takeN r.2.1 y).2)) hf hI rz (nz.mono zo)) ?_
  refine jx4 ?_
  exact Rts.res1 (fn := Tryz.f83) rfl (.i rfl zi <| .nil)

end Go.Fl

/- Divisors of polynomials with the leading coefficient 1, as the program and the reference look for them. No program in sight. -/
namespace Go.Fl
open Go
def evH (p : List Int) (x : Int) : Int := p.foldr (fun c v => v * x + c) 0
theorem evH_cons {c x : Int} {p : List Int} : evH (c :: p) x = evH p x * x + c := rfl
def evK (p : List Int) (x : Int) (k : Nat) : Int := evH (p.drop (p.length - k)) x
theorem evK_zero {p : List Int} {x : Int} : evK p x 0 = 0 := by unfold evK; rw [Nat.sub_zero, List.drop_length]; rfl
theorem evK_step {p : List Int} {x : Int} {k : Nat} (hk : k < p.length) : evK p x (k + 1) = evK p x k * x + nth p (p.length - 1 - k) := by unfold evK; rw [drop_step hk]; rfl
theorem evK_end {p : List Int} {x : Int} : evK p x p.length = evH p x := by unfold evK; rw [Nat.sub_self, List.drop_zero]
theorem evK_bd {p : List Int} {x : Int} (hp : ∀ i, (nth p i).natAbs ≤ 1000) (hx : x.natAbs ≤ 1001) : ∀ {k : Nat}, k ≤ p.length → (evK p x k).natAbs ≤ 1002 ^ k
 | 0, _ => by rw [evK_zero]; decide
 | k + 1, hk => by
  have h1 := evK_bd hp hx (k := k) zo
  rw [evK_step zo]
  have h2 := hp (p.length - 1 - k)
  have h3 : (evK p x k * x).natAbs ≤ 1002 ^ k * 1001 := mul_ab h1 hx
  have h4 : 1002 ^ (k + 1) = 1002 ^ k * 1001 + 1002 ^ k := by rw [Nat.pow_succ]; omega
  by_cases h : k = 0
  ·subst h
   rw [evK_zero, Int.zero_mul, Int.zero_add]
   omega
  ·have h5 : 1002 ≤ 1002 ^ k := Nat.le_self_pow h 1002
   omega
theorem evH_hv {x : Int} : ∀ {p : List Int}, hvP x 1 p = (evH p x, 1)
 | [] => rfl
 | c :: p => by rw [hvP, evH_hv (p := p), evH_cons]; simp
theorem evH_P {p : List Int} {x : Int} (_ : 1 ≤ p.length) : evH p x = evP (lP p) (p.length - 1) x := by
 have h1 := (hvP_hm (a := x) (b := 1) (cs := p)).2
 rw [evH_hv] at h1
 simp only at h1
 rw [h1]
 unfold hm evP
 refine sumTo_congr fun i _ => ?_
 rw [Int.one_pow, Int.mul_one]
def RedB (p : List Int) : Prop := p.length ≠ 2 ∧ ((∃ x, evH p x = 0) ∨ (p.length = 5 ∧ ∃ a b c d : Int, nth p 3 = a + c ∧ nth p 2 = b + d + a * c ∧ nth p 1 = a * d + b * c ∧ nth p 0 = b * d))
open Classical in
noncomputable def redB (p : List Int) : Bool := if RedB p then true else false
theorem redB_t {p : List Int} (h : RedB p) : redB p = true := if_pos h
theorem redB_f {p : List Int} (h : ¬ RedB p) : redB p = false := if_neg h
theorem redB_P {p : List Int} (h3 : 3 ≤ p.length) (h : ¬ RedB p) : ¬ RedP (lP p) (p.length - 1) := by
 have e : ∀ i, i < p.length → lP p i = nth p i := fun i hi => if_pos hi
 rintro (⟨x, hx⟩ | ⟨h4, a, b, c, d, q3, q2, q1, q0⟩)
 ·exact h ⟨by omega, .inl ⟨x, by rw [evH_P zo]; exact hx⟩⟩
 ·exact h ⟨by omega, .inr ⟨by omega, a, b, c, d, by rw [← e 3 zo]; exact q3, by rw [← e 2 zo]; exact q2, by rw [← e 1 zo]; exact q1, by rw [← e 0 zo]; exact q0⟩⟩
theorem root_dvd {p : List Int} {x : Int} (hp : 1 ≤ p.length) (h : evH p x = 0) : x ∣ nth p 0 := by
 match p, hp with
 | c :: p, _ =>
  rw [evH_cons] at h
  show x ∣ c
  exact ⟨-evH p x, by rw [Int.mul_neg, Int.mul_comm]; omega⟩
theorem root_zero {p : List Int} (hp : 1 ≤ p.length) : evH p 0 = nth p 0 := by
 match p, hp with
 | c :: p, _ => rw [evH_cons, Int.mul_zero, Int.zero_add]; rfl
theorem dvd_abs {x y : Int} (h : x ∣ y) (hy : y ≠ 0) : x ≠ 0 ∧ x.natAbs ≤ y.natAbs := by
 obtain ⟨q, rfl⟩ := h
 refine ⟨fun e => hy (by rw [e, Int.zero_mul]), ?_⟩
 rw [Int.natAbs_mul]
 exact Nat.le_mul_of_pos_right _ (by have : q ≠ 0 := fun e => hy (by rw [e, Int.mul_zero]); omega)
def DvsP (n : Int) (q : Int → Bool) (m : Nat) : Prop := ∃ d : Nat, 1 ≤ d ∧ d < m ∧ (d : Int) ∣ n ∧ (q d = true ∨ q (-(d : Int)) = true)
theorem dvs_all {n : Int} {q : Int → Bool} (hn : n ≠ 0) : DvsP n q (n.natAbs + 1) ↔ ∃ x : Int, x ∣ n ∧ q x = true := by
 constructor
 ·rintro ⟨d, h1, h2, h3, h4 | h4⟩
  ·exact ⟨d, h3, h4⟩
  ·exact ⟨-d, Int.neg_dvd.2 h3, h4⟩
 ·rintro ⟨x, h1, h2⟩
  obtain ⟨h3, h4⟩ := dvd_abs h1 hn
  refine ⟨x.natAbs, by omega, by omega, Int.ofNat_dvd_left.2 (Int.natAbs_dvd_natAbs.2 h1), ?_⟩
  rcases Int.natAbs_eq x with e | e
  ·left; rw [← e]; exact h2
  ·right; rw [← e]; exact h2
theorem sum_abs {b d : Int} (hb : b ≠ 0) (hd : d ≠ 0) : b.natAbs + d.natAbs ≤ (b * d).natAbs + 1 := by
 rw [Int.natAbs_mul]
 obtain ⟨m, hm⟩ : ∃ m, b.natAbs = m + 1 := ⟨b.natAbs - 1, by omega⟩
 obtain ⟨n, hn⟩ : ∃ n, d.natAbs = n + 1 := ⟨d.natAbs - 1, by omega⟩
 rw [hm, hn, Nat.succ_mul, Nat.mul_succ]
 omega
theorem quad_bd {p2 p3 a b d : Int} (h2 : p2.natAbs ≤ 1000) (h3 : p3.natAbs ≤ 1000) (hb : b ≠ 0) (hd : d ≠ 0) (h0 : (b * d).natAbs ≤ 1000) (h : b + d + a * (p3 - a) = p2) : a.natAbs ≤ 2001 := by
 have h1 := sum_abs hb hd
 by_cases e : p3 - a = 0
 ·omega
 ·have h4 : (a * (p3 - a)).natAbs ≤ 2001 := by omega
  rw [Int.natAbs_mul] at h4
  have := Nat.le_mul_of_pos_right a.natAbs (show 0 < (p3 - a).natAbs by omega)
  omega
def QuadP (p : List Int) (b : Int) : Prop := ∃ a d : Int, nth p 0 = b * d ∧ a * (d - b) = nth p 1 - b * nth p 3 ∧ b + d + a * (nth p 3 - a) = nth p 2
theorem quad_iff {p : List Int} (_ : nth p 0 ≠ 0) : (∃ b, b ∣ nth p 0 ∧ QuadP p b) ↔ ∃ a b c d : Int, nth p 3 = a + c ∧ nth p 2 = b + d + a * c ∧ nth p 1 = a * d + b * c ∧ nth p 0 = b * d := by
 constructor
 ·rintro ⟨b, _, a, d, h1, h2, h3⟩
  refine ⟨a, b, nth p 3 - a, d, by omega, h3.symm, ?_, h1⟩
  rw [Int.mul_sub] at h2 ⊢
  rw [Int.mul_comm b a]
  omega
 ·rintro ⟨a, b, c, d, h3, h2, h1, h0'⟩
  refine ⟨b, ⟨d, h0'⟩, a, d, h0', ?_, ?_⟩
  ·rw [h1, h3, Int.mul_sub, Int.mul_add, Int.mul_comm b a]; omega
  ·rw [h2, h3, show a + c - a = c by omega]
open Classical in
noncomputable def quadB (p : List Int) (b : Int) : Bool := if QuadP p b then true else false
theorem quadB_t {p : List Int} {b : Int} : quadB p b = true ↔ QuadP p b := by unfold quadB; split <;> simp_all
theorem quadB_f {p : List Int} {b : Int} (h : ¬ QuadP p b) : quadB p b = false := if_neg h
section
variable {p : List Int} {b d : Int}
theorem quad_ne (hb : b ≠ 0) (hd : nth p 0 = b * d) (hne : d - b ≠ 0) : quadB p b = (decide ((nth p 1 - b * nth p 3).tmod (d - b) = 0) && decide (b + d + (nth p 1 - b * nth p 3).tdiv (d - b) * (nth p 3 - (nth p 1 - b * nth p 3).tdiv (d - b)) = nth p 2)) := by
 have key : QuadP p b ↔ ((nth p 1 - b * nth p 3).tmod (d - b) = 0 ∧ b + d + (nth p 1 - b * nth p 3).tdiv (d - b) * (nth p 3 - (nth p 1 - b * nth p 3).tdiv (d - b)) = nth p 2) := by
  constructor
  ·rintro ⟨a, d', h1, h2, h3⟩
   have e : d' = d := by
    have : b * d' = b * d := by rw [← h1, ← hd]
    exact Int.eq_of_mul_eq_mul_left hb this
   subst e
   rw [← h2, Int.mul_tmod_left, Int.mul_tdiv_cancel _ hne]
   exact ⟨rfl, h3⟩
  ·rintro ⟨h1, h2⟩
   refine ⟨_, d, hd, ?_, h2⟩
   have := Int.mul_tdiv_add_tmod (nth p 1 - b * nth p 3) (d - b)
   rw [h1, Int.add_zero, Int.mul_comm] at this
   exact this
 rw [← Bool.decide_and, Bool.eq_iff_iff, quadB_t, decide_eq_true_eq]
 exact key
theorem quad_eq0 (hb : b ≠ 0) (hd : nth p 0 = b * b) (h : nth p 1 ≠ b * nth p 3) : quadB p b = false := by
 refine quadB_f ?_
 rintro ⟨a, d', h1, h2, h3⟩
 have e : d' = b := Int.eq_of_mul_eq_mul_left hb (by rw [← h1, ← hd])
 subst e
 rw [Int.sub_self, Int.mul_zero] at h2
 omega
theorem quad_found {a : Int} (hd : nth p 0 = b * b) (h : nth p 1 = b * nth p 3) (ha : a * a - nth p 3 * a + nth p 2 - 2 * b = 0) : quadB p b = true := by
 refine quadB_t.2 ⟨a, b, hd, by rw [Int.sub_self, Int.mul_zero]; omega, ?_⟩
 rw [Int.mul_sub, Int.mul_comm a (nth p 3)]
 omega
theorem quad_none (hb : b ≠ 0) (hd : nth p 0 = b * b) (h0 : (nth p 0).natAbs ≤ 1000) (h2 : (nth p 2).natAbs ≤ 1000) (h3 : (nth p 3).natAbs ≤ 1000) (h : ∀ a : Int, -3000 ≤ a → a ≤ 3000 → a * a - nth p 3 * a + nth p 2 - 2 * b ≠ 0) : quadB p b = false := by
 refine quadB_f ?_
 rintro ⟨a, d', h1, _, q3⟩
 have e : d' = b := Int.eq_of_mul_eq_mul_left hb (by rw [← h1, ← hd])
 subst e
 have hbd := quad_bd h2 h3 hb hb (by rw [← h1]; exact h0) q3
 refine h a zo zo ?_
 rw [Int.mul_sub, Int.mul_comm a (nth p 3)] at q3
 omega
end
theorem red_prog {p : List Int} (hl : 3 ≤ p.length) (h0 : nth p 0 ≠ 0) : RedB p ↔ DvsP (nth p 0) (fun d => decide (evH p d = 0)) ((nth p 0).natAbs + 1) ∨ (p.length = 5 ∧ DvsP (nth p 0) (quadB p) ((nth p 0).natAbs + 1)) := by
 rw [dvs_all h0, dvs_all h0]
 have e1 : (∃ x, x ∣ nth p 0 ∧ decide (evH p x = 0) = true) ↔ ∃ x, evH p x = 0 := ⟨fun ⟨x, _, h⟩ => ⟨x, of_decide_eq_true h⟩, fun ⟨x, h⟩ => ⟨x, root_dvd zo h, decide_eq_true h⟩⟩
 have e2 : (∃ x, x ∣ nth p 0 ∧ quadB p x = true) ↔ ∃ b, b ∣ nth p 0 ∧ QuadP p b := exists_congr fun x => and_congr_right fun _ => quadB_t
 rw [e1, e2, quad_iff h0]
 unfold RedB
 constructor
 ·rintro ⟨_, h⟩; exact h
 ·intro h; exact ⟨by omega, h⟩
theorem red_ref_root {p : List Int} (hl : 1 ≤ p.length) (hp : (nth p 0).natAbs ≤ 1000) : (∃ x, evH p x = 0) ↔ ∃ x, -1001 ≤ x ∧ x ≤ 1001 ∧ evH p x = 0 := by
 refine ⟨fun ⟨x, hx⟩ => ?_, fun ⟨x, _, _, h⟩ => ⟨x, h⟩⟩
 by_cases h : nth p 0 = 0
 ·exact ⟨0, by omega, by omega, by rw [root_zero hl, h]⟩
 ·have := (dvd_abs (root_dvd hl hx) h).2
  exact ⟨x, by omega, by omega, hx⟩
def RefQ (p : List Int) (b a : Int) : Prop := b * (nth p 2 - b - a * (nth p 3 - a)) = nth p 0 ∧ a * (nth p 2 - b - a * (nth p 3 - a)) + b * (nth p 3 - a) = nth p 1
theorem red_ref_quad {p : List Int} (h0 : nth p 0 ≠ 0) (hp : (nth p 0).natAbs ≤ 1000) (h2 : (nth p 2).natAbs ≤ 1000) (h3 : (nth p 3).natAbs ≤ 1000) : (∃ a b c d : Int, nth p 3 = a + c ∧ nth p 2 = b + d + a * c ∧ nth p 1 = a * d + b * c ∧ nth p 0 = b * d) ↔ ∃ b, -1000 ≤ b ∧ b ≤ 1000 ∧ b ≠ 0 ∧ b ∣ nth p 0 ∧ ∃ a, -2002 ≤ a ∧ a ≤ 2002 ∧ RefQ p b a := by
 constructor
 ·rintro ⟨a, b, c, d, q3, q2, q1, q0⟩
  have hb : b ≠ 0 := fun e => h0 (by rw [q0, e, Int.zero_mul])
  have hd : d ≠ 0 := fun e => h0 (by rw [q0, e, Int.mul_zero])
  have hc : c = nth p 3 - a := by omega
  have hbd := quad_bd h2 h3 hb hd (by rw [← q0]; exact hp) (a := a) (by rw [← hc]; exact q2.symm)
  have hbb := (dvd_abs (⟨d, q0⟩ : b ∣ nth p 0) h0).2
  have hdd : nth p 2 - b - a * (nth p 3 - a) = d := by rw [← hc]; omega
  exact ⟨b, by omega, by omega, hb, ⟨d, q0⟩, a, by omega, by omega, by rw [hdd]; exact q0.symm, by rw [hdd, ← hc]; exact q1.symm⟩
 ·rintro ⟨b, _, _, _, _, a, _, _, r1, r2⟩
  exact ⟨a, b, nth p 3 - a, nth p 2 - b - a * (nth p 3 - a), by omega, by omega, r2.symm, r1.symm⟩
end Go.Fl

/- Chains of remainders (Sturm), as the program and the reference compute them: one root between two fractions means different signs. No program in sight. -/
namespace Go.Fl
open Go
theorem lP_nth {xs : List Int} {i : Nat} : lP xs i = nth xs i := by
 unfold lP
 split
 ·rfl
 ·rename_i h; rw [nth_out zo]; rfl
def TrP (xs : List Int) : Prop := trimL xs = xs
theorem trim_trim {xs : List Int} : TrP (trimL xs) := by
 by_cases h : trimL xs = []
 ·unfold TrP; rw [h]; rfl
 ·obtain ⟨ys, y, hy⟩ : ∃ ys y, trimL xs = ys ++ [y] := ⟨_, _, (List.dropLast_concat_getLast h).symm⟩
  have hl := trim_last h
  have hy0 : y ≠ 0 := by
   have e : (trimL xs).getLast h = y := by simp [hy]
   rw [← e]; exact hl
  unfold TrP
  rw [hy]; exact trim_snoc hy0
theorem TrP.top {xs : List Int} (h : TrP xs) (h0 : xs ≠ []) : 1 ≤ xs.length ∧ nth xs (xs.length - 1) ≠ 0 := by
 have hl : 1 ≤ xs.length := List.length_pos_iff.2 h0
 refine ⟨hl, ?_⟩
 have h1 : trimL xs ≠ [] := by rw [h]; exact h0
 have h2 := trim_last h1
 have e : (trimL xs).getLast h1 = nth xs (xs.length - 1) := by
  simp only [show trimL xs = xs from h]
  rw [List.getLast_eq_getElem]
  have : xs.length - 1 < xs.length := by omega
  simp [nth, this]
 rw [← e]; exact h2
theorem TrP.neg {xs : List Int} (h : TrP xs) : TrP (xs.map fun z => -z) := by unfold TrP; rw [trim_map, h]
theorem trP_of {xs : List Int} (h : nth xs (xs.length - 1) ≠ 0) : TrP xs := by
 unfold TrP
 have := trim_take (xs := xs) (m := xs.length) (Nat.le_refl _) (fun i h1 h2 => by omega) (.inr h)
 rw [this, List.take_length]
def agT (q r : List Int) : List Int := tab r.length fun i => nth r i * (nth q (q.length - 1) * nth q (q.length - 1)) + (if r.length - q.length ≤ i then -(nth r (r.length - 1) * nth q (q.length - 1) * nth q (i - (r.length - q.length))) else 0)
def agR (q r : List Int) : List Int := trimL (agT q r)
theorem agT_len {q r : List Int} : (agT q r).length = r.length := tab_len
theorem agT_out {q r : List Int} {i : Nat} (hq : 1 ≤ q.length) (hr : q.length ≤ r.length) (hi : r.length - 1 ≤ i) : nth (agT q r) i = 0 := by
 by_cases h : i < r.length
 ·have e : i = r.length - 1 := by omega
  subst e
  unfold agT
  rw [nth_tab h, if_pos zo, show r.length - 1 - (r.length - q.length) = q.length - 1 by omega, Int.mul_assoc]; omega
 ·rw [nth_out (by rw [agT_len]; omega)]; rfl
theorem agR_len {q r : List Int} (hq : 1 ≤ q.length) (hr : q.length ≤ r.length) : (agR q r).length ≤ r.length - 1 := trim_len_le fun _ hi => agT_out hq hr hi
def agF (q : List Int) : Nat → List Int → List Int
 | 0, r => r
 | f + 1, r => if r.length < q.length then r else agF q f (agR q r)
theorem agF_stab {q : List Int} (hq : 1 ≤ q.length) : ∀ {f : Nat} {r : List Int}, r.length ≤ f → agF q f r = agF q r.length r
 | 0, r, h => by rw [show r.length = 0 by omega]
 | f + 1, r, h => by
  by_cases hl : r.length < q.length
  ·rw [agF, if_pos hl]
   cases e : r.length with
   | zero => rfl
   | succ m => rw [agF, if_pos hl]
  ·have h1 := agR_len hq (r := r) zo
   obtain ⟨m, hm⟩ : ∃ m, r.length = m + 1 := ⟨r.length - 1, by omega⟩
   rw [hm, agF, agF, if_neg hl, if_neg hl, agF_stab hq (f := f) zo, agF_stab hq (f := m) zo]
theorem agF_end {q r : List Int} (h : r.length < q.length) : agF q r.length r = r := by
 cases e : r.length with
 | zero => rfl
 | succ m => rw [agF, if_pos h]
theorem agF_go {q r : List Int} (hq : 1 ≤ q.length) (h : q.length ≤ r.length) : agF q r.length r = agF q (agR q r).length (agR q r) := by
 have h1 := agR_len hq h
 obtain ⟨m, hm⟩ : ∃ m, r.length = m + 1 := ⟨r.length - 1, by omega⟩
 rw [hm, agF, if_neg zo, agF_stab hq zo]
theorem agF_ind {q : List Int} (hq : 1 ≤ q.length) (P : List Int → Prop) (hP : ∀ r, q.length ≤ r.length → P r → P (agR q r)) : ∀ {f : Nat} {r : List Int}, r.length ≤ f → P r → P (agF q f r) ∧ (agF q f r).length < q.length
 | 0, r, h, hr => ⟨hr, by rw [agF]; omega⟩
 | f + 1, r, h, hr => by
  by_cases hl : r.length < q.length
  ·rw [agF, if_pos hl]; exact ⟨hr, hl⟩
  ·have h1 := agR_len hq (r := r) zo
   rw [agF, if_neg hl]
   exact agF_ind hq P hP zo (hP r zo hr)
def against (p q : List Int) : List Int := (agF q p.length p).map fun z => -z
theorem agR_dl {q r : List Int} {X B : Nat} (hr : ∀ i, dl (nth r i) ≤ X) (hq : ∀ i, dl (nth q i) ≤ B) (i : Nat) : dl (nth (agT q r) i) ≤ X + (2 * B + 1) := by
 by_cases hi : i < r.length
 ·unfold agT
  rw [nth_tab hi]
  have h1 := hr i
  have h2 := hr (r.length - 1)
  have h3 := hq (q.length - 1)
  have h4 := hq (i - (r.length - q.length))
  have m1 := dl_mul (nth q (q.length - 1)) (nth q (q.length - 1))
  have m2 := dl_mul (nth r i) (nth q (q.length - 1) * nth q (q.length - 1))
  have m3 := dl_mul (nth r (r.length - 1)) (nth q (q.length - 1))
  have m4 := dl_mul (nth r (r.length - 1) * nth q (q.length - 1)) (nth q (i - (r.length - q.length)))
  split
  ·have := dl_add (nth r i * (nth q (q.length - 1) * nth q (q.length - 1))) (-(nth r (r.length - 1) * nth q (q.length - 1) * nth q (i - (r.length - q.length))))
   rw [dl_neg] at this
   omega
  ·rw [Int.add_zero]; omega
 ·rw [nth_out (by rw [agT_len]; omega)]
  show dl 0 ≤ _
  rw [dl_zero.2 rfl]; omega
theorem against_ok {p q : List Int} {A B : Nat} (hq : 1 ≤ q.length) (hp : TrP p) (hA : ∀ i, dl (nth p i) ≤ A) (hB : ∀ i, dl (nth q i) ≤ B) (h5 : p.length ≤ 5) : TrP (against p q) ∧ (against p q).length < q.length ∧ ∀ i, dl (nth (against p q) i) ≤ A + 5 * (2 * B + 1) := by
 obtain ⟨⟨h1, h2⟩, h3⟩ := agF_ind hq (fun r => TrP r ∧ r.length ≤ p.length ∧ ∀ i, dl (nth r i) ≤ A + (p.length - r.length) * (2 * B + 1)) (fun r hl ⟨_, hn, hr⟩ => by
  have e := agR_len hq hl
  refine ⟨trim_trim, by omega, fun i => ?_⟩
  unfold agR at e ⊢
  rw [nth_trim]
  have := agR_dl hr hB i
  have k := Nat.mul_le_mul_right (2 * B + 1) (show p.length - r.length + 1 ≤ p.length - (trimL (agT q r)).length by omega)
  rw [Nat.succ_mul] at k
  omega) (f := p.length) (r := p) (Nat.le_refl _) ⟨hp, Nat.le_refl _, fun i => by have := hA i; omega⟩
 refine ⟨h1.neg, by unfold against; rw [List.length_map]; exact h3, fun i => ?_⟩
 unfold against
 rw [nth_neg, dl_neg]
 have k := Nat.mul_le_mul_right (2 * B + 1) (show p.length - (agF q p.length p).length ≤ 5 by omega)
 have := h2.2 i
 omega
theorem agR_P {q r : List Int} (hr : q.length ≤ r.length) : lP (agR q r) = stpP (nth q (q.length - 1) * nth q (q.length - 1)) (nth r (r.length - 1) * nth q (q.length - 1)) (r.length - q.length) (lP r) (lP q) := by
 funext i
 unfold stpP shf
 rw [lP_nth, lP_nth, lP_nth]
 unfold agR
 rw [nth_trim]
 by_cases hi : i < r.length
 ·unfold agT
  rw [nth_tab hi, Int.mul_comm (nth r i)]
  split
  ·rw [Int.sub_eq_add_neg]
  ·rw [Int.mul_zero, Int.sub_zero, Int.add_zero]
 ·rw [nth_out (by rw [agT_len]; omega), nth_out (xs := r) zo]
  have e : nth q (i - (r.length - q.length)) = 0 := nth_out zo
  rw [e]
  show (0 : Int) = _ * 0 - _
  split <;> simp
theorem BkP.neg {p f g : Pol} (h : BkP p f g) : BkP p (fun i => -f i) g := by
 obtain ⟨s, q1, q2, d, h1, h2, h3, h4⟩ := h
 refine ⟨s, fun i => -1 * q1 i, q2, d, h1, fun i hi => by show -1 * q1 i = 0; rw [h2 i hi]; rfl, h3, fun k => ?_⟩
 have e1 : (fun i => -f i) = fun i => -1 * f i := by funext i; omega
 rw [e1, cnv_mulL, cnv_mulR, h4 k]
 show _ = -1 * (-1 * cnv q1 f k) + _
 omega
theorem BkP.against {p : Pol} {a b : List Int} (hb : 1 ≤ b.length) (h0 : nth b (b.length - 1) ≠ 0) (h : BkP p (lP a) (lP b)) : BkP p (lP (Go.Fl.against a b)) (lP b) := by
 have := (agF_ind hb (fun r => BkP p (lP r) (lP b)) (fun r hl hr => by rw [agR_P hl]; exact hr.stp (Int.mul_ne_zero h0 h0)) (f := a.length) (r := a) (Nat.le_refl _) h).1.neg
 have e : lP (Go.Fl.against a b) = fun i => -lP (agF b a.length a) i := by
  funext i
  rw [lP_nth, lP_nth]
  unfold Go.Fl.against
  exact nth_neg
 rw [e]; exact this
theorem bd_ex (l : List Int) : ∃ B : Nat, ∀ i, dl (nth l i) ≤ B := by
 induction l with
 | nil => exact ⟨0, fun i => by rw [nth_nil]; show dl 0 ≤ 0; rw [dl_zero.2 rfl]; omega⟩
 | cons x l ih =>
  obtain ⟨B, hB⟩ := ih
  refine ⟨max (dl x) B, fun i => ?_⟩
  match i with
  | 0 => exact Nat.le_max_left _ _
  | i + 1 => exact Nat.le_trans (hB i) (Nat.le_max_right _ _)
def chF : Nat → List Int → List Int → List (List Int)
 | 0, _, _ => []
 | f + 1, a, b => if against a b = [] then [] else against a b :: chF f b (against a b)
def drv (p : List Int) : List Int := tab (p.length - 1) fun i => nth p (i + 1) * ((i : Int) + 1)
def chS (p : List Int) : List (List Int) := p :: drv p :: chF 5 p (drv p)
theorem ch_next : ∀ {f : Nat} {a b : List Int} {m : Nat}, b.length ≤ f → TrP a → TrP b → b ≠ [] → a.length ≤ 5 → b.length ≤ 5 → 2 ≤ m → m ≤ (a :: b :: chF f a b).length →
  against (nth (a :: b :: chF f a b) (m - 2)) (nth (a :: b :: chF f a b) (m - 1)) = (if m < (a :: b :: chF f a b).length then nth (a :: b :: chF f a b) m else []) ∧ (m < (a :: b :: chF f a b).length → nth (a :: b :: chF f a b) m ≠ [])
 | 0, a, b, m, h, _, _, h0, _, _, _, _ => absurd (List.length_eq_zero_iff.1 zo) h0
 | f + 1, a, b, m, h, ta, tb, h0, ha, hb, h2, hm => by
  obtain ⟨B, hB⟩ : ∃ B : Nat, ∀ i, dl (nth b i) ≤ B := bd_ex b
  obtain ⟨A, hA⟩ : ∃ A : Nat, ∀ i, dl (nth a i) ≤ A := bd_ex a
  obtain ⟨r1, r2, _⟩ := against_ok (List.length_pos_iff.2 h0) ta hA hB ha
  rw [chF] at hm ⊢
  by_cases e : against a b = []
  ·rw [if_pos e] at hm ⊢
   have : m = 2 := by simp at hm; omega
   subst this
   exact ⟨by rw [if_neg (by simp)]; exact e, fun h => by simp at h⟩
  ·rw [if_neg e] at hm ⊢
   by_cases h3 : m = 2
   ·subst h3
    exact ⟨by rw [if_pos (by simp)]; rfl, fun _ => e⟩
   ·have ih := ch_next (f := f) (a := b) (b := against a b) (m := m - 1) zo tb r1 e hb zo zo (by simp at hm ⊢; omega)
    obtain ⟨n, rfl⟩ : ∃ n, m = n + 3 := ⟨m - 3, by omega⟩
    simp only [show n + 3 - 1 = n + 2 by omega, show n + 2 - 2 = n by omega, show n + 2 - 1 = n + 1 by omega, show n + 3 - 2 = n + 1 by omega] at ih ⊢
    have s : ∀ (x : List Int) (l : List (List Int)) (k : Nat), nth (x :: l) (k + 1) = nth l k := fun _ _ _ => rfl
    have hl : (n + 3 < (a :: b :: against a b :: chF f b (against a b)).length) = (n + 2 < (b :: against a b :: chF f b (against a b)).length) := propext ⟨fun h => by simp at h ⊢; omega, fun h => by simp at h ⊢; omega⟩
    rw [s a, s a, s a]
    simp only [hl]
    exact ih
def bndG (A B : Nat) : Nat → Nat
 | 0 => A
 | j + 1 => bndG B (A + 5 * (2 * B + 1)) j
theorem ch_el : ∀ {f : Nat} {a b : List Int} {A B : Nat} {j : Nat}, TrP a → TrP b → b ≠ [] → a.length ≤ 5 → b.length < a.length → (∀ i, dl (nth a i) ≤ A) → (∀ i, dl (nth b i) ≤ B) → j < (a :: b :: chF f a b).length →
  TrP (nth (a :: b :: chF f a b) j) ∧ (nth (a :: b :: chF f a b) j).length + j ≤ a.length ∧ ∀ i, dl (nth (nth (a :: b :: chF f a b) j) i) ≤ bndG A B j := by
 intro f
 induction f with
 | zero =>
  intro a b A B j ta tb h0 ha hb hA hB hj
  rw [chF] at hj ⊢
  match j, hj with
  | 0, _ => exact ⟨ta, by show a.length + 0 ≤ _; omega, hA⟩
  | 1, _ => exact ⟨tb, by show b.length + 1 ≤ _; omega, hB⟩
  | j + 2, hj => exact absurd hj (by show ¬ j + 2 < 2; omega)
 | succ f ih =>
  intro a b A B j ta tb h0 ha hb hA hB hj
  obtain ⟨r1, r2, r3⟩ := against_ok (List.length_pos_iff.2 h0) ta hA hB ha
  match j, hj with
  | 0, _ => exact ⟨ta, by show a.length + 0 ≤ _; omega, hA⟩
  | 1, _ => exact ⟨tb, by show b.length + 1 ≤ _; omega, hB⟩
  | j + 2, hj =>
   rw [chF] at hj ⊢
   by_cases e : against a b = []
   ·rw [if_pos e] at hj
    exact absurd (show j + 2 < 2 from hj) zo
   ·rw [if_neg e] at hj ⊢
    have s : ∀ (x : List Int) (l : List (List Int)) (k : Nat), nth (x :: l) (k + 1) = nth l k := fun _ _ _ => rfl
    have q := ih (a := b) (b := against a b) (A := B) (B := A + 5 * (2 * B + 1)) (j := j + 1) tb r1 e zo r2 hB r3 (by simp at hj ⊢; omega)
    rw [s a]
    obtain ⟨q1, q2, q3⟩ := q
    exact ⟨q1, by omega, q3⟩
theorem ch_last : ∀ {f : Nat} {a b : List Int} {p : Pol}, b.length ≤ f → TrP a → TrP b → b ≠ [] → a.length ≤ 5 → b.length ≤ 5 → BkP p (lP a) (lP b) → ∃ e l, a :: b :: chF f a b = l ++ [e] ∧ TrP e ∧ e ≠ [] ∧ e.length ≤ b.length ∧ BkP p (lP []) (lP e)
 | 0, a, b, p, h, _, _, h0, _, _, _ => absurd (List.length_eq_zero_iff.1 zo) h0
 | f + 1, a, b, p, h, ta, tb, h0, ha, hb, hk => by
  obtain ⟨B, hB⟩ := bd_ex b
  obtain ⟨A, hA⟩ := bd_ex a
  obtain ⟨t1, t2⟩ := tb.top h0
  obtain ⟨r1, r2, _⟩ := against_ok t1 ta hA hB ha
  have hk2 := hk.against t1 t2
  rw [chF]
  by_cases e : against a b = []
  ·rw [if_pos e]
   rw [e] at hk2
   exact ⟨b, [a], rfl, tb, h0, Nat.le_refl _, hk2⟩
  ·rw [if_neg e]
   obtain ⟨x, l, q1, q2, q3, q4, q5⟩ := ch_last (f := f) (a := b) (b := against a b) (p := p) zo tb r1 e hb zo hk2.swap
   exact ⟨x, a :: l, by rw [q1]; rfl, q2, q3, by omega, q5⟩
def chgS (st : Nat × Int) (s : Int) : Nat × Int := (if s * st.2 < 0 then st.1 + 1 else st.1, if s ≠ 0 then s else st.2)
def chg (l : List Int) : Nat × Int := l.foldl chgS (0, 0)
theorem chg_succ {l : List Int} {k : Nat} (hk : k < l.length) : chg (l.take (k + 1)) = chgS (chg (l.take k)) (nth l k) := by
 unfold chg
 rw [take_succ_nth hk, List.foldl_append]; rfl
theorem chg_le {l : List Int} : (chg l).1 ≤ l.length := by
 have key : ∀ (l : List Int) (st : Nat × Int), (l.foldl chgS st).1 ≤ st.1 + l.length := by
  intro l
  induction l with
  | nil => intro st; exact Nat.le_refl _
  | cons s l ih =>
   intro st
   rw [List.foldl_cons]
   have := ih (chgS st s)
   have h1 : (chgS st s).1 ≤ st.1 + 1 := by unfold chgS; simp only; split <;> omega
   rw [List.length_cons]; omega
 have := key l (0, 0)
 unfold chg
 omega
theorem chg_par : ∀ {l : List Int} {st : Nat × Int}, (∀ s ∈ l, s = -1 ∨ s = 0 ∨ s = 1) → (st.2 = -1 ∨ st.2 = 1) → ((l.foldl chgS st).2 = -1 ∨ (l.foldl chgS st).2 = 1) ∧ (((l.foldl chgS st).1 + st.1) % 2 = 0 ↔ (l.foldl chgS st).2 = st.2)
 | [], st, _, h => ⟨h, ⟨fun _ => rfl, fun _ => by simp only [List.foldl_nil]; omega⟩⟩
 | s :: l, st, hs, h => by
  rw [List.foldl_cons]
  have hs1 := hs s List.mem_cons_self
  have h2 : (chgS st s).2 = -1 ∨ (chgS st s).2 = 1 := by unfold chgS; simp only; split <;> omega
  obtain ⟨q1, q2⟩ := chg_par (l := l) (st := chgS st s) (fun x hx => hs x (List.mem_cons_of_mem _ hx)) h2
  refine ⟨q1, ?_⟩
  have h3 : ((chgS st s).1 = st.1 ∧ (chgS st s).2 = st.2) ∨ ((chgS st s).1 = st.1 + 1 ∧ (chgS st s).2 = -st.2) := by
   unfold chgS; simp only
   rcases hs1 with rfl | rfl | rfl
   ·rcases h with e | e
    ·rw [e]; left; simp
    ·rw [e]; right; simp
   ·left; simp
   ·rcases h with e | e
    ·rw [e]; right; simp
    ·rw [e]; left; simp
  generalize (List.foldl chgS (chgS st s) l).1 = n at *
  generalize (List.foldl chgS (chgS st s) l).2 = v at *
  rcases h3 with ⟨e1, e2⟩ | ⟨e1, e2⟩ <;> rw [e1, e2] at q2 <;> omega
theorem chg_ends {s e : Int} {l : List Int} (hs : s = -1 ∨ s = 1) (he : e = -1 ∨ e = 1) (hl : ∀ x ∈ l, x = -1 ∨ x = 0 ∨ x = 1) (hlast : s :: l = [s] ∧ e = s ∨ ∃ l', s :: l = l' ++ [e]) : (chg (s :: l)).1 % 2 = 0 ↔ e = s := by
 have h0 : chgS (0, 0) s = (0, s) := by unfold chgS; simp only [Int.mul_zero]; rcases hs with rfl | rfl <;> rfl
 unfold chg
 rw [List.foldl_cons, h0]
 obtain ⟨q1, q2⟩ := chg_par (st := (0, s)) hl hs
 have hv : (l.foldl chgS (0, s)).2 = e := by
  rcases hlast with ⟨h1, h2⟩ | ⟨l', h1⟩
  ·have : l = [] := by simpa using h1
   subst this; exact h2.symm
  ·rcases List.eq_nil_or_concat l with rfl | ⟨l2, x, rfl⟩
   ·have : l' = [] ∧ s = e := by
     have hlen := congrArg List.length h1
     simp at hlen
     subst hlen
     simp at h1
     exact ⟨rfl, h1⟩
    exact this.2
   ·rw [List.concat_eq_append] at h1 ⊢
    have hx : x = e := by
     have h2 : (s :: l2 ++ [x]).getLast? = (l' ++ [e]).getLast? := congrArg List.getLast? h1
     rw [List.getLast?_concat, List.getLast?_concat] at h2
     exact Option.some.inj h2
    subst hx
    rw [List.foldl_append]
    show (chgS _ x).2 = x
    unfold chgS
    simp only
    rw [if_pos zo]
 rw [hv] at q2
 simpa using q2
def sgCh (p : List Int) (a b : Int) : List Int := (chS p).map fun q => sgn (hvP a b q).1
theorem drv_len {p : List Int} : (drv p).length = p.length - 1 := tab_len
theorem drv_nth {p : List Int} {i : Nat} (h : i < p.length - 1) : nth (drv p) i = nth p (i + 1) * ((i : Int) + 1) := nth_tab h
section
variable {p : List Int} (h3 : 3 ≤ p.length) (h5 : p.length ≤ 5) (h1 : nth p (p.length - 1) = 1) (hs : ∀ i, (nth p i).natAbs ≤ 1000)
include h3 h5 h1
theorem drv_tr : TrP p ∧ TrP (drv p) ∧ drv p ≠ [] := by
 refine ⟨trP_of zo, trP_of ?_, fun e => ?_⟩
 ·rw [drv_len, drv_nth zo, show p.length - 1 - 1 + 1 = p.length - 1 by omega, h1]; omega
 ·have := congrArg List.length e
  rw [drv_len] at this
  simp at this; omega
include hs
theorem drv_dl : (∀ i, dl (nth p i) ≤ 1) ∧ ∀ i, dl (nth (drv p) i) ≤ 1 := by
 refine ⟨fun i => dl_le (by have := hs i; have := h3; have := h1; simp [BP]; omega), fun i => ?_⟩
 by_cases hi : i < p.length - 1
 ·rw [drv_nth hi]
  have h2 : (nth p (i + 1) * ((i : Int) + 1)).natAbs ≤ 1000 * 5 := mul_ab (hs _) zo
  exact dl_le (by simp [BP]; omega)
 ·rw [nth_out (by rw [drv_len]; omega)]; show dl 0 ≤ 1; rw [dl_zero.2 rfl]; omega
theorem chS_el {j : Nat} (hj : j < (chS p).length) : TrP (nth (chS p) j) ∧ (nth (chS p) j).length + j ≤ p.length ∧ ∀ i, dl (nth (nth (chS p) j) i) ≤ 1681 := by
 obtain ⟨t1, t2, t3⟩ := drv_tr h3 h5 h1
 obtain ⟨d1, d2⟩ := drv_dl h3 h5 h1 hs
 have hj' : j < (p :: drv p :: chF 5 p (drv p)).length := hj
 obtain ⟨q1, q2, q3⟩ := ch_el (f := 5) (A := 1) (B := 1) t1 t2 t3 h5 (by rw [drv_len]; omega) d1 d2 hj'
 refine ⟨q1, q2, fun i => Nat.le_trans (q3 i) ?_⟩
 have : j ≤ 5 := by omega
 by_cases h : j = 5
 ·have hl : (nth (p :: drv p :: chF 5 p (drv p)) j) = [] := List.length_eq_zero_iff.1 zo
  exfalso
  have hn := (ch_next (f := 5) (a := p) (b := drv p) (m := j) (by rw [drv_len]; omega) t1 t2 t3 h5 (by rw [drv_len]; omega) zo zo).2 hj'
  exact hn hl
 ·rcases (show j = 0 ∨ j = 1 ∨ j = 2 ∨ j = 3 ∨ j = 4 by omega) with rfl | rfl | rfl | rfl | rfl <;> decide
omit hs in
theorem chS_next {m : Nat} (h2 : 2 ≤ m) (hm : m ≤ (chS p).length) : against (nth (chS p) (m - 2)) (nth (chS p) (m - 1)) = (if m < (chS p).length then nth (chS p) m else []) ∧ (m < (chS p).length → nth (chS p) m ≠ []) := by
 obtain ⟨t1, t2, t3⟩ := drv_tr h3 h5 h1
 exact ch_next (f := 5) (by rw [drv_len]; omega) t1 t2 t3 h5 (by rw [drv_len]; omega) h2 hm
omit hs in
theorem chS_ne {m : Nat} (hm : m < (chS p).length) : nth (chS p) m ≠ [] := by
 obtain ⟨t1, t2, t3⟩ := drv_tr h3 h5 h1
 match m, hm with
 | 0, _ => show p ≠ []; intro e; rw [e] at h3; simp at h3
 | 1, _ => exact t3
 | m + 2, hm => exact (chS_next h3 h5 h1 zo zo).2 hm
theorem chS_len : (chS p).length ≤ 5 := by
 refine Classical.byContradiction fun hn => ?_
 have q := (chS_el h3 h5 h1 hs (j := 5) zo).2.1
 exact chS_ne h3 h5 h1 (m := 5) zo (List.length_eq_zero_iff.1 zo)
omit hs in
theorem sturm (hred : ¬ RedP (lP p) (p.length - 1)) {lo hi den : Int} (hd : 0 < den) (hr : ((chg (sgCh p lo den)).1 : Int) - (chg (sgCh p hi den)).1 = 1) : sgn (hmL p lo den) * sgn (hmL p hi den) < 0 := by
 obtain ⟨t1, t2, t3⟩ := drv_tr h3 h5 h1
 have hP1 : lP p (p.length - 1) = 1 := by rw [lP_nth, h1]
 have hbk : BkP (lP p) (lP p) (lP (drv p)) := by
  refine ⟨1, oneP, nilP, 0, by decide, fun i hi => by unfold oneP; rw [if_neg zo], fun i hi => rfl, fun k => ?_⟩
  rw [cnv_one, cnv_nil]; unfold nilP; omega
 obtain ⟨e, l, q1, q2, q3, q4, q5⟩ := ch_last (f := 5) (by rw [drv_len]; omega) t1 t2 t3 h5 (by rw [drv_len]; omega) hbk
 obtain ⟨e1, e2⟩ := q2.top q3
 rw [drv_len] at q4
 have hel : e.length = 1 := by
  refine Classical.byContradiction fun hn => hred (div_red zo zo lP_dg hP1 ?_)
  obtain ⟨s, g1, g2, d, s0, dg1, dg2, hs⟩ := q5
  refine ⟨s, lP e, g2, e.length - 1, d, s0, by omega, by omega, lP_dg, by rw [lP_nth]; exact e2, dg2, fun k => ?_⟩
  have hn : cnv g1 (lP []) = nilP := by
   have : lP [] = nilP := by funext i; rw [lP_nth]; rfl
   rw [this, cnv_comm, cnv_nil]
  rw [hs k, hn, cnv_comm (f := lP e)]
  unfold nilP; omega
 obtain ⟨c, rfl⟩ : ∃ c, e = [c] := List.length_eq_one_iff.1 hel
 have hc : c ≠ 0 := e2
 have hcv : ∀ a b : Int, (hvP a b [c]).1 = c := fun a b => by simp [hvP]
 have hhv : ∀ a : Int, hmL p a den = (hvP a den p).1 := fun a => (hvP_hm (a := a) (b := den) (cs := p)).2.symm
 have hnr : ∀ a : Int, hmL p a den ≠ 0 := fun a => no_root zo zo lP_dg hP1 hred hd
 have sg1 : ∀ z : Int, sgn z = -1 ∨ sgn z = 0 ∨ sgn z = 1 := fun z => by rcases sgn_cases z with h | h | h <;> omega
 have sg2 : ∀ z : Int, z ≠ 0 → sgn z = -1 ∨ sgn z = 1 := fun z hz => by rcases sgn_cases z with h | h | h <;> omega
 have key : ∀ a : Int, (chg (sgCh p a den)).1 % 2 = 0 ↔ sgn c = sgn (hmL p a den) := fun a => by
  have hsl : sgCh p a den = sgn (hmL p a den) :: ((drv p :: chF 5 p (drv p)).map fun q => sgn (hvP a den q).1) := by rw [hhv]; rfl
  rw [hsl]
  refine chg_ends (sg2 _ (hnr a)) (sg2 _ hc) (fun x hx => ?_) (.inr ⟨l.map fun q => sgn (hvP a den q).1, ?_⟩)
  ·obtain ⟨q, _, rfl⟩ := List.mem_map.1 hx
   exact sg1 _
  ·rw [← hsl]
   unfold sgCh chS
   rw [q1, List.map_append, List.map_cons, List.map_nil, hcv]
 have k1 := key lo
 have k2 := key hi
 have a1 := sg2 _ (hnr lo)
 have a2 := sg2 _ (hnr hi)
 have a3 := sg2 _ hc
 have hne : sgn (hmL p lo den) ≠ sgn (hmL p hi den) := fun e => by
  rw [e] at k1
  by_cases q : sgn c = sgn (hmL p hi den)
  ·have := k1.2 q; have := k2.2 q; omega
  ·have u1 : ¬ (chg (sgCh p lo den)).1 % 2 = 0 := fun h => q (k1.1 h)
   have u2 : ¬ (chg (sgCh p hi den)).1 % 2 = 0 := fun h => q (k2.1 h)
   omega
 rcases a1 with e1 | e1 <;> rcases a2 with e2 | e2 <;> rw [e1, e2] <;> first | decide | exact absurd (e1.trans e2.symm) hne
end
end Go.Fl

/- Contracts: values of polynomials, divisors. -/
namespace Go.Fl
open Go Go.Proofs
open TrL renaming op → tO
open RunD renaming op → rO
set_option maxRecDepth 100000

open Classical in
noncomputable def dvB (n : Int) (q : Int → Bool) (m : Nat) : Bool := if DvsP n q m then true else false
theorem dvB_t {n : Int} {q : Int → Bool} {m : Nat} : dvB n q m = true ↔ DvsP n q m := by unfold dvB; split <;> simp_all
theorem dvB_f {n : Int} {q : Int → Bool} {m : Nat} (h : ¬ DvsP n q m) : dvB n q m = false := if_neg h
theorem dvs_succ {n : Int} {q : Int → Bool} {m : Nat} (h : ¬ DvsP n q m) (h2 : ¬ ((m : Int) ∣ n ∧ (q m = true ∨ q (-(m : Int)) = true))) : ¬ DvsP n q (m + 1) := fun ⟨d, h3, h4, h5, h6⟩ => by
 by_cases e : d = m
 ·subst e; exact h2 ⟨h5, h6⟩
 ·exact h ⟨d, h3, by omega, h5, h6⟩
theorem evK_i {p : List Int} {x : Int} (hp : ∀ i, (nth p i).natAbs ≤ 1000) (hx : x.natAbs ≤ 1001) (h5 : p.length ≤ 5) {k : Nat} (hk : k ≤ p.length) : -1020000000000000 ≤ evK p x k ∧ evK p x k ≤ 1020000000000000 := by
 have h1 := evK_bd hp hx hk
 have h2 : 1002 ^ k ≤ 1002 ^ 5 := Nat.pow_le_pow_right zo zo
 have h3 : (1002 : Nat) ^ 5 = 1010040080080032 := by decide
 omega
theorem ct_fvalue (p : List Int) (x : Int) (h5 : p.length ≤ 5) (hs : ∀ i, (nth p i).natAbs ≤ 1000) (hx : x.natAbs ≤ 1001) : Ct Tryz.prog 211 [kRd (eL eI) p, kI x] (kI (evH p x)) := by
 refine CtM.mk Tryz.func211 rfl Tryz.ntmps211 rfl (fun w J => ?_); refine jx2 ?_; refine jb 3 rfl ?_; refine jx5 ?_; refine ja 5 ?_; refine jx7 ?_; refine tO (ok_call (fun hp => ct_backI _) (.a rfl uu <| .nil)) rfl rfl ?_; refine jx3 ?_
 refine Tr.back (e := eI) (xs := p) back_ints [⟨3, true, _, _⟩, ⟨4, true, _, _⟩, ⟨5, true, _, _⟩, ⟨9, true, _, _⟩] [3, 5] (fun k => [⟨3, [], cBlk [kI x]⟩, ⟨5, [], cBlk [kI (evK p x k)]⟩]) (fun k => [⟨3, [], cBlk [kI x]⟩, ⟨5, [], cBlk [kI (evK p x k)]⟩]) (fun k => True) (fun k => False) (Ent.mk (.k rfl rfl <| .k rfl rfl <| .k rfl rfl <| .k rfl rfl <| .nil) (.k rfl <| .e (by rw [evK_zero]) rfl <| .nil) rfl) rfl rfl (fun _ => rfl) (fun _ => rfl) (fun _ => inferInstance) (fun _ => inferInstance) rfl zi ?_ ?_ ?_
 ·intro k hk9 hR9 l9 w9 J9 b9 bks9
  refine jn ?_
  have hb1 := evK_i hs hx h5 (k := k) zo
  have hb2 := evK_i hs hx h5 (k := k + 1) zo
  rw [evK_step zo] at hb2
  have hb3 := hs (p.length - 1 - k)
  refine jx3 ?_; refine End.asg (fun w1009 J1009 b1009 => ?_); refine jn ?_; refine jx10 ?_; exact End.rnd trivial (Ent.mk (zk) (.k rfl <| .e (by rw [evK_step zo]) rfl <| .nil) rfl)
 ·intro hE9
  refine je ?_; refine jx9 ?_; refine Rts.mk ?_; exact Rts.res1 (fn := Tryz.f211) rfl (.i rfl (by rw [evK_end]) <| .nil)
 ·intro k hk9 hX9
  exact absurd hX9 id

theorem ct_divisors (n : Int) (f : Int → Bool) (hn : n.natAbs ≤ 1000) (h0 : n ≠ 0) : Ct Tryz.prog 209 [kI n, kFnC Tryz.prog (fun x : Int => x ∣ n) (fun x : Int => [kI x]) (fun x : Int => kB (f x))] (kB (dvB n f (n.natAbs + 1))) := by
 refine Ct.mk Tryz.func209 rfl Tryz.ntmps209 rfl (fun w J => ?_); refine jx11 ?_
 refine Tr.for1 (σ := Nat) [⟨0, true, _, _⟩, ⟨1, true, _, _⟩] [] (fun k => [⟨5, true, [], kI (k : Int)⟩]) (fun k => []) (fun k => (1 ≤ k ∧ k ≤ n.natAbs + 1) ∧ ¬ DvsP n f k) (fun k => ¬ DvsP n f (n.natAbs + 1)) (fun k => n.natAbs + 1 - k) (1) ⟨by omega, fun ⟨d, h1, h2, _⟩ => by omega⟩ (Ent.mk (.i rfl zi <| zk) (.nil) rfl) ?_ ?_
 ·rintro k ⟨hk, hR⟩
  refine jn ?_; refine jx6 ?_; refine tO (ok_neg rfl uu (fun _ => zo)) rfl rfl ?_; refine tO (ok_max rfl uu rfl uu) rfl rfl ?_; refine jx3 ?_; refine jq ?_ ?_
  ·intro h2
   refine jx8 ?_; refine tO (ok_rem rfl uu rfl uu (fun _ => zo)) rfl rfl ?_; refine jx4 ?_; refine TrL.gd rfl rfl rfl (ok_callC (k : Int) rfl id (fun hp => by simp at hp; exact Int.dvd_of_tmod_eq_zero hp) (.a rfl id <| .nil)) rfl rfl ?_; refine jx3 ?_; refine TrL.gd rfl rfl rfl (ok_neg rfl id (fun hp => by simp at hp; omega)) rfl rfl ?_; refine TrL.gd rfl rfl rfl (ok_callC (-(k : Int)) rfl id (fun hp => by have hp := gdL hp; simp at hp; exact Int.neg_dvd.2 (Int.dvd_of_tmod_eq_zero hp)) (.a rfl id <| .nil)) rfl rfl ?_; refine TrL.gd rfl rfl rfl (ok_or rfl id rfl (fun hp h => gdF2 (id hp) h)) rfl rfl ?_
   refine jx3 ?_; refine Tr.cnd rfl ?_ ?_
   ·intro h4
    simp only [Bool.and_eq_true, Bool.or_eq_true, decide_eq_true_eq] at h4
    have hyes : DvsP n f (n.natAbs + 1) := ⟨k, hk.1, by omega, Int.dvd_of_tmod_eq_zero h4.1, h4.2⟩
    refine jx12 ?_; exact Rts.res1 (fn := Tryz.f209) rfl (.b rfl (dvB_t.2 hyes).symm <| .nil)
   ·intro h4
    have hno : ¬ ((k : Int) ∣ n ∧ (f k = true ∨ f (-(k : Int)) = true)) := fun ⟨q1, q2⟩ => by rw [decide_eq_true (Int.tmod_eq_zero_of_dvd q1)] at h4; rcases q2 with q2 | q2 <;> simp [q2] at h4
    refine jx8 ?_
    exact End.lp (k + 1) ⟨by omega, dvs_succ hR hno⟩ zo (Ent.mk (.i rfl zi <| zk) (.nil) rfl)
  ·intro h2
   replace h2 := Int.not_le.1 h2
   refine jx4 ?_
   exact End.cut (k) (by have : k = n.natAbs + 1 := (by split at h2 <;> omega); rw [← this]; exact hR) (Ent.mk (.i rfl zi <| zk) (.nil) rfl)
 ·intro k hE
  refine je ?_; refine jx7 ?_; exact Rts.res1 (fn := Tryz.f209) rfl (.b rfl (dvB_f hE).symm <| .nil)

theorem ct_divided1 (p : List Int) (x : Int) (h5 : p.length ≤ 5) (hs : ∀ i, (nth p i).natAbs ≤ 1000) (hx : x.natAbs ≤ 1001) : Ct Tryz.prog 210 [kI x, kPtr (eL eI) p] (kB (decide (evH p x = 0))) := by
 refine Ct.mk Tryz.func210 rfl Tryz.ntmps210 rfl (fun w J => ?_); refine jx9 ?_; refine jc (ct_fvalue p x h5 hs hx) ?_; refine jx5 ?_
 exact Rts.res1 (fn := Tryz.f210) rfl (.b rfl zi <| .nil)

theorem ct_dividedQ (p : List Int) (b : Int) (h5 : p.length = 5) (hs : ∀ i, (nth p i).natAbs ≤ 1000) (h0 : nth p 0 ≠ 0) (hb : b ∣ nth p 0) : Ct Tryz.prog 212 [kI b, kPtr (eL eI) p] (kB (quadB p b)) := by
 obtain ⟨d, hd⟩ := hb
 have hb0 : b ≠ 0 := fun e => h0 (by rw [hd, e, Int.zero_mul])
 have hd0 : d ≠ 0 := fun e => h0 (by rw [hd, e, Int.mul_zero])
 have hs0 := hs 0
 have hs1 := hs 1
 have hs2 := hs 2
 have hs3 := hs 3
 have hbb := (dvd_abs (⟨d, hd⟩ : b ∣ nth p 0) h0).2
 have hdd := (dvd_abs (⟨b, by rw [hd, Int.mul_comm]⟩ : d ∣ nth p 0) h0).2
 have hq : (nth p 0).tdiv b = d := by rw [hd, Int.mul_tdiv_cancel_left _ hb0]
 have hm3 : (b * nth p 3).natAbs ≤ 1000 * 1000 := mul_ab zo zo
 refine Ct.mk Tryz.func212 rfl Tryz.ntmps212 rfl (fun w J => ?_); refine jx8 ?_; refine tO (ok_idxN (i := 0) rfl uu rfl uu rfl (fun _ => zo)) rfl rfl ?_; refine jx2 ?_; refine tO (ok_quo rfl uu rfl uu (fun _ => zo)) rfl rfl ?_
 rw [hq]
 refine jx11 ?_; refine jq ?_ ?_
 ·intro h2
  have hne : d - b ≠ 0 := by omega
  have hAb : ((nth p 1 - b * nth p 3).tdiv (d - b)).natAbs ≤ 1001000 := by rw [Int.natAbs_tdiv]; exact Nat.le_trans (Nat.div_le_self _ _) zo
  have hAm : (((nth p 1 - b * nth p 3).tdiv (d - b)) * (nth p 3 - ((nth p 1 - b * nth p 3).tdiv (d - b)))).natAbs ≤ 1001000 * 1002000 := mul_ab hAb zo
  have hqn := quad_ne hb0 hd hne
  refine jx1 ?_; refine Tr.draw 8 mixed (by kernel_rfl) ?_; refine jx1 ?_; refine rO (ok_idxN (i := 1) rfl uu rfl uu rfl (fun _ => zo)) rfl rfl ?_; refine jx3 ?_; refine rO (ok_idxN (i := 3) rfl uu rfl uu rfl (fun _ => zo)) rfl rfl ?_; refine jx13 ?_; refine tO (ok_quo rfl uu rfl uu (fun _ => zo)) rfl rfl ?_; refine jx4 ?_; refine Tr.draw 21 mixed (by kernel_rfl) ?_; refine jx4 ?_; refine rO (ok_rem rfl uu rfl uu (fun _ => zo)) rfl rfl ?_; refine jx4 ?_; refine RunD.gd rfl rfl rfl (ok_add rfl id rfl id (fun hp => by simp at hp; omega)) rfl rfl ?_; refine jx2 ?_
  refine RunD.gd rfl rfl rfl (ok_idxN (i := 3) rfl id rfl uu rfl (fun _ => zo)) rfl rfl ?_; refine jx2 ?_; refine RunD.gd rfl rfl rfl (ok_sub rfl id rfl id (fun hp => by simp at hp; omega)) rfl rfl ?_; refine RunD.gd rfl rfl rfl (ok_mul rfl id rfl id (fun hp => by simp at hp; omega)) rfl rfl ?_; refine RunD.gd rfl rfl rfl (ok_add rfl id rfl id (fun hp => by simp at hp; omega)) rfl rfl ?_; refine jx1 ?_; refine RunD.gd rfl rfl rfl (ok_idxN (i := 2) rfl id rfl uu rfl (fun _ => zo)) rfl rfl ?_; refine jx9 ?_; exact Rts.res1 (fn := Tryz.f212) rfl (.b rfl (by rw [hqn]) <| .nil)
 ·intro h2
  replace h2 := Classical.not_not.1 h2
  have hdb : d = b := by omega
  subst hdb
  refine jx4 ?_; refine Tr.draw 8 mixed (by kernel_rfl) ?_; refine jx1 ?_; refine rO (ok_idxN (i := 1) rfl uu rfl uu rfl (fun _ => zo)) rfl rfl ?_; refine jx3 ?_; refine rO (ok_idxN (i := 3) rfl uu rfl uu rfl (fun _ => zo)) rfl rfl ?_; refine jx6 ?_; refine jq ?_ ?_
  ·intro h6
   have hcase : nth p 1 ≠ d * nth p 3 := h6
   refine jx7 ?_; exact Rts.res1 (fn := Tryz.f212) rfl (.b rfl (by rw [quad_eq0 hb0 hd hcase]) <| .nil)
  ·intro h6
   replace h6 := Classical.not_not.1 h6
   have hcase : nth p 1 = d * nth p 3 := by omega
   refine jx8 ?_
   refine Tr.for1 (σ := Nat) [⟨0, true, _, _⟩, ⟨1, true, _, _⟩] [] (fun k => [⟨7, true, [], kI ((k : Int) - 3000)⟩]) (fun k => []) (fun k => k ≤ 6001 ∧ ∀ j : Nat, j < k → ((j : Int) - 3000) * ((j : Int) - 3000) - nth p 3 * ((j : Int) - 3000) + nth p 2 - 2 * d ≠ 0) (fun k => ∀ j : Nat, j < 6001 → ((j : Int) - 3000) * ((j : Int) - 3000) - nth p 3 * ((j : Int) - 3000) + nth p 2 - 2 * d ≠ 0) (fun k => 6001 - k) (0) ⟨by omega, fun j h => absurd h (Nat.not_lt_zero _)⟩ (Ent.mk (.i rfl zi <| zk) (.nil) rfl) ?_ ?_
   ·rintro k ⟨hk, hR⟩
    refine jn ?_
    have m1 : (((k : Int) - 3000) * ((k : Int) - 3000)).natAbs ≤ 3002 * 3002 := mul_ab zo zo
    have m2 : (nth p 3 * ((k : Int) - 3000)).natAbs ≤ 1000 * 3002 := mul_ab zo zo
    refine jx7 ?_; refine jq ?_ ?_
    ·intro h9
     refine jx5 ?_; refine Tr.draw 15 mixed (by kernel_rfl) ?_; refine jx4 ?_; refine rO (ok_idxN (i := 3) rfl uu rfl uu rfl (fun _ => zo)) rfl rfl ?_; refine jx5 ?_; refine rO (ok_idxN (i := 2) rfl uu rfl uu rfl (fun _ => zo)) rfl rfl ?_; refine jx9 ?_; refine jq ?_ ?_
     ·intro h11
      have hyes := quad_found hd hcase (a := (k : Int) - 3000) zo
      refine jx12 ?_; exact Rts.res1 (fn := Tryz.f212) rfl (.b rfl (by rw [hyes]) <| .nil)
     ·intro h11
      have hno : ((k : Int) - 3000) * ((k : Int) - 3000) - nth p 3 * ((k : Int) - 3000) + nth p 2 - 2 * d ≠ 0 := by omega
      refine jx8 ?_
      exact End.lp (k + 1) ⟨by omega, fun j hj => by by_cases e : j = k; (subst e; exact hno); exact hR j zo⟩ zo (Ent.mk (.i rfl zi <| zk) (.nil) rfl)
    ·intro h9
     replace h9 := Int.not_le.1 h9
     refine jx4 ?_
     exact End.cut (k) (fun j hj => hR j zo) (Ent.mk (.i rfl zi <| zk) (.nil) rfl)
   ·intro k hE
    refine je ?_; refine jx7 ?_; exact Rts.res1 (fn := Tryz.f212) rfl (.b rfl (by rw [quad_none hb0 hd hs0 hs2 hs3 (fun a h1 h2 => by have := hE (a + 3000).toNat zo; rw [show (((a + 3000).toNat : Nat) : Int) - 3000 = a by omega] at this; exact this)]) <| .nil)

theorem ct_divided (p : List Int) (h2 : 2 ≤ p.length) (h5 : p.length ≤ 5) (hs : ∀ i, (nth p i).natAbs ≤ 1000) : Ct Tryz.prog 188 [kRd (eL eI) p] (kB (redB p)) := by
 have hs0 := hs 0
 refine Ct.mk Tryz.func188 rfl Tryz.ntmps188 rfl (fun w J => ?_); refine jx2 ?_; refine jb 1 rfl ?_; refine jx4 ?_; refine Tr.frzB 1 [1] (eL eI) ⟨rfl, trivial⟩ rfl ?_; refine jn ?_; refine jx16 ?_; refine Tr.cnd rfl ?_ ?_
 ·intro h2
  try simp only [decide_eq_true_eq] at h2
  have hr := redB_f (p := p) (fun e => e.1 zo)
  refine jx8 ?_; exact Rts.res1 (fn := Tryz.f188) rfl (.b rfl (by rw [hr]) <| .nil)
 ·intro h2
  try simp only [decide_eq_false_iff_not] at h2
  have hl3 : 3 ≤ p.length := by omega
  refine jx3 ?_; refine tO (ok_idxN (i := 0) rfl uu rfl uu rfl (fun _ => zo)) rfl rfl ?_; refine jx5 ?_; refine Tr.cnd rfl ?_ ?_
  ·intro h4
   try simp only [decide_eq_true_eq] at h4
   have hr := redB_t (p := p) ⟨by omega, .inl ⟨0, by rw [root_zero zo]; exact h4⟩⟩
   refine jx8 ?_; exact Rts.res1 (fn := Tryz.f188) rfl (.b rfl (by rw [hr]) <| .nil)
  ·intro h4
   try simp only [decide_eq_false_iff_not] at h4
   have hp0 : nth p 0 ≠ 0 := h4
   have hrp := red_prog hl3 hp0
   refine jx3 ?_; refine tO (ok_idxN (i := 0) rfl uu rfl uu rfl (fun _ => zo)) rfl rfl ?_; refine jx1 ?_; refine tO (ok_clo (.cons rfl uu <| .nil)) rfl rfl ?_; refine tO (ok_call (fun hp => ct_divisors (nth p 0) (fun d => decide (evH p d = 0)) hs0 hp0) (.a rfl uu <| .cons rfl uu (fun g u h => kFnC_clo (fun a ha => ct_divided1 p a h5 hs (by have := (dvd_abs ha hp0).2; omega)) g u h) <| .nil)) rfl rfl ?_; refine jx3 ?_; refine Tr.cnd rfl ?_ ?_
   ·intro h6
    have hr := redB_t (hrp.2 (.inl (dvB_t.1 h6)))
    refine jx8 ?_; exact Rts.res1 (fn := Tryz.f188) rfl (.b rfl (by rw [hr]) <| .nil)
   ·intro h6
    have hn6 : ¬ DvsP (nth p 0) (fun d => decide (evH p d = 0)) ((nth p 0).natAbs + 1) := fun e => by rw [dvB_t.2 e] at h6; cases h6
    refine jx7 ?_; refine Tr.cnd rfl ?_ ?_
    ·intro h8
     try simp only [decide_eq_true_eq] at h8
     have hr := redB_f (fun e => (hrp.1 e).elim hn6 (fun e => by omega))
     refine jx8 ?_; exact Rts.res1 (fn := Tryz.f188) rfl (.b rfl (by rw [hr]) <| .nil)
    ·intro h8
     try simp only [decide_eq_false_iff_not, Int.not_lt] at h8
     have hl5 : p.length = 5 := by omega
     refine jx6 ?_; refine tO (ok_idxN (i := 0) rfl uu rfl uu rfl (fun _ => zo)) rfl rfl ?_; refine jx1 ?_; refine tO (ok_clo (.cons rfl uu <| .nil)) rfl rfl ?_; refine tO (ok_call (fun hp => ct_divisors (nth p 0) (quadB p) hs0 hp0) (.a rfl uu <| .cons rfl uu (fun g u h => kFnC_clo (fun a ha => ct_dividedQ p a hl5 hs hp0 ha) g u h) <| .nil)) rfl rfl ?_; refine jx4 ?_; exact Rts.res1 (fn := Tryz.f188) rfl (.b rfl (by rw [Bool.eq_iff_iff, dvB_t]; constructor; (intro e; exact redB_t (hrp.2 (.inr ⟨hl5, e⟩))); (intro e; by_cases e2 : RedB p; (exact ((hrp.1 e2).resolve_left hn6).2); (rw [redB_f e2] at e; cases e))) <| .nil)

end Go.Fl

/- Contracts: derivatives and remainders of polynomials. -/
namespace Go.Fl
open Go Go.Proofs
open TrL renaming op → tO
open RunD renaming op → rO
set_option maxRecDepth 100000

theorem drv_take {p : List Int} {k : Nat} (h1 : 1 ≤ k) (hk : k < p.length) : (drv p).take (k - 1) ++ [nth p k * (k : Int)] = (drv p).take k := by
 obtain ⟨j, rfl⟩ : ∃ j, k = j + 1 := ⟨k - 1, by omega⟩
 rw [Nat.add_sub_cancel, take_succ_nth (xs := drv p) (by rw [drv_len]; omega), drv_nth zo]
 congr 3
def agI (q ys : List Int) (m k : Nat) : List Int := tab ys.length fun i => if i < k then nth (agT q (ys.take m)) i else nth ys i
theorem agI_len {q ys : List Int} {m k : Nat} : (agI q ys m k).length = ys.length := tab_len
theorem agI_zero {q ys : List Int} {m : Nat} : ys = agI q ys m 0 := by
 conv => lhs; rw [tab_nth (rfl : ys.length = ys.length)]
 exact tab_congr fun i _ => (if_neg (Nat.not_lt_zero _)).symm
theorem agI_at {q ys : List Int} {m k : Nat} (hk : k < ys.length) : nth (agI q ys m k) k = nth ys k := by unfold agI; rw [nth_tab hk, if_neg (Nat.lt_irrefl _)]
theorem agI_set {q ys : List Int} {m k : Nat} {x : Int} (hx : x = nth (agT q (ys.take m)) k) : (agI q ys m k).set k x = agI q ys m (k + 1) := by
 subst hx
 unfold agI
 rw [tab_set]
 refine tab_congr fun i _ => ?_
 by_cases e : i = k
 ·subst e; rw [if_pos rfl, if_pos zo]
 ·rw [if_neg e]
  by_cases h : i < k
  ·rw [if_pos h, if_pos zo]
  ·rw [if_neg h, if_neg zo]
theorem agI_set2 {q ys : List Int} {m k : Nat} {x y : Int} (hx : x = nth (agT q (ys.take m)) k) : ((agI q ys m k).set k y).set k x = agI q ys m (k + 1) := by
 rw [List.set_set]; exact agI_set hx
theorem agI_take {q ys : List Int} {m : Nat} (hm : m ≤ ys.length) : (agI q ys m m).take m = agT q (ys.take m) := by
 have hl : (ys.take m).length = m := by rw [List.length_take]; omega
 have h1 : ((agI q ys m m).take m).length = m := by rw [List.length_take, agI_len]; omega
 refine ext_nth (by rw [h1, agT_len, hl]) fun i hi => ?_
 rw [h1] at hi
 rw [nth_take' hi]
 unfold agI
 rw [nth_tab zo, if_pos hi]
theorem agT_at {q ys : List Int} {m k : Nat} (hm : m ≤ ys.length) (hk : k < m) : nth (agT q (ys.take m)) k = nth ys k * (nth q (q.length - 1) * nth q (q.length - 1)) + (if m - q.length ≤ k then -(nth ys (m - 1) * nth q (q.length - 1) * nth q (k - (m - q.length))) else 0) := by
 have hl : (ys.take m).length = m := by rw [List.length_take]; omega
 unfold agT
 rw [hl, nth_tab hk, nth_take' hk, nth_take' (show m - 1 < m by omega)]
theorem ag_round {q ys : List Int} {m : Nat} (hm : m ≤ ys.length) : (agI q ys m m).take (trimL ((agI q ys m m).take m)).length = agR q (ys.take m) := by
 rw [agI_take hm]
 have h1 : (trimL (agT q (ys.take m))).length ≤ m := by
  have := trim_len (xs := agT q (ys.take m))
  rw [agT_len, List.length_take] at this
  omega
 have h2 := trim_pre (xs := agT q (ys.take m))
 rw [← agI_take hm, List.take_take, Nat.min_eq_left (by rw [agI_take hm]; exact h1), agI_take hm] at h2
 exact h2
theorem cut_end {ys : List Int} {m j : Nat} (hm : m ≤ ys.length) (hj : j ≤ m) (hR : ∀ i, j ≤ i → i < m → nth ys i = 0) (hnz : ¬ (0 < j ∧ nth ys (j - 1) = 0)) : (trimL (ys.take m)).length = j := by
 have hlm : (ys.take m).length = m := by rw [List.length_take]; omega
 have := trim_take (xs := ys.take m) (m := j) zo (fun i h1 h2 => by rw [nth_take' zo]; exact hR i h1 zo) (by
  by_cases e : j = 0
  ·exact .inl e
  ·exact .inr (by rw [nth_take' zo]; exact fun e2 => hnz ⟨by omega, e2⟩))
 rw [this, List.length_take, List.length_take]; omega
theorem ag_next {p q ys : List Int} {m A B : Nat} (hq1 : 1 ≤ q.length) (hyl : ys.length = p.length) (hm : m ≤ p.length) (hqm : q.length ≤ m) (hag : agF q m (ys.take m) = agF q p.length p) (hyb : ∀ i, i < m → dl (nth ys i) ≤ A + (p.length - m) * (2 * B + 1)) (hB : ∀ i, dl (nth q i) ≤ B) :
  (agI q ys m m).length = p.length ∧ (agR q (ys.take m)).length ≤ p.length ∧ agF q (agR q (ys.take m)).length ((agI q ys m m).take (agR q (ys.take m)).length) = agF q p.length p ∧ ∀ i, i < (agR q (ys.take m)).length → dl (nth (agI q ys m m) i) ≤ A + (p.length - (agR q (ys.take m)).length) * (2 * B + 1) := by
 have htl : (ys.take m).length = m := by rw [List.length_take]; omega
 have h1 := agR_len hq1 (r := ys.take m) zo
 have h2 := ag_round (q := q) (ys := ys) (m := m) zo
 rw [agI_take zo] at h2
 have h2' : (agI q ys m m).take (agR q (ys.take m)).length = agR q (ys.take m) := h2
 refine ⟨by rw [agI_len, hyl], by omega, ?_, fun i hi => ?_⟩
 ·rw [h2', ← hag]
  have := agF_go hq1 (r := ys.take m) zo
  rw [htl] at this
  exact this.symm
 ·have e : nth (agI q ys m m) i = nth (agT q (ys.take m)) i := by unfold agI; rw [nth_tab zo, if_pos zo]
  rw [e]
  have q1 := agR_dl (q := q) (r := ys.take m) (X := A + (p.length - m) * (2 * B + 1)) (fun j => by
   by_cases hj : j < m
   ·rw [nth_take' hj]; exact hyb j hj
   ·rw [nth_out (by rw [htl]; omega)]; show dl 0 ≤ _; rw [dl_zero.2 rfl]; omega) hB i
  have q2 := Nat.mul_le_mul_right (2 * B + 1) (show p.length - m + 1 ≤ p.length - (agR q (ys.take m)).length by omega)
  rw [Nat.succ_mul] at q2
  omega
def ngI (ys : List Int) (k : Nat) : List Int := tab ys.length fun i => if i < k then -nth ys i else nth ys i
theorem ngI_zero {ys : List Int} : ys = ngI ys 0 := by
 conv => lhs; rw [tab_nth (rfl : ys.length = ys.length)]
 exact tab_congr fun i _ => (if_neg (Nat.not_lt_zero _)).symm
theorem ngI_at {ys : List Int} {k : Nat} (hk : k < ys.length) : nth (ngI ys k) k = nth ys k := by unfold ngI; rw [nth_tab hk, if_neg (Nat.lt_irrefl _)]
theorem ngI_set {ys : List Int} {k : Nat} (hk : k < ys.length) : (ngI ys k).set k (-nth (ngI ys k) k) = ngI ys (k + 1) := by
 rw [ngI_at hk]
 unfold ngI
 rw [tab_set]
 refine tab_congr fun i _ => ?_
 by_cases e : i = k
 ·subst e; rw [if_pos rfl, if_pos zo]
 ·rw [if_neg e]
  by_cases h : i < k
  ·rw [if_pos h, if_pos zo]
  ·rw [if_neg h, if_neg zo]
theorem ngI_take {ys : List Int} {m : Nat} (hm : m ≤ ys.length) : (ngI ys m).take m = (ys.take m).map fun z => -z := by
 have hl : (ys.take m).length = m := by rw [List.length_take]; omega
 have h1 : ((ngI ys m).take m).length = m := by rw [List.length_take]; unfold ngI; rw [tab_len]; omega
 refine ext_nth (by rw [h1, List.length_map, hl]) fun i hi => ?_
 rw [h1] at hi
 rw [nth_take' hi, nth_neg, nth_take' hi]
 unfold ngI
 rw [nth_tab zo, if_pos hi]
theorem ct_fderived (p : List Int) (h2 : 2 ≤ p.length) (h5 : p.length ≤ 5) (hd : ∀ i, dl (nth p i) ≤ 1) : Ct Tryz.prog 221 [kRd (eL eZ) p] (kRd (eL eZ) (drv p)) := by
 refine Ct.mk Tryz.func221 rfl Tryz.ntmps221 rfl (fun w J => ?_); refine jx18 ?_; refine Tr.grow (s := 3) rfl rfl 33 rfl 160 eZ rfl ?_
 refine Tr.for1 (σ := Nat) [⟨6, true, _, _⟩, ⟨7, true, _, _⟩] [] (fun k => [⟨3, true, [33], kOsl 33 (k - 1)⟩, ⟨8, true, [], kI (k : Int)⟩]) (fun k => [⟨33, [], cArr true 160 eZ ((drv p).take (k - 1)) (k - 1)⟩]) (fun k => k ≤ p.length) (fun k => k = p.length) (fun k => p.length - k) (0) zi (Ent.mk (.o rfl zi rfl <| .i rfl zi <| zk) (.a (by rfl) zi <| .nil) rfl) ?_ ?_
 ·intro k hR0
  refine jn ?_
  have hdk := hd k
  refine jx6 ?_; refine jq ?_ ?_
  ·intro h3
   refine jx9 ?_; refine ja 5 ?_; refine jx10 ?_; refine jq ?_ ?_
   ·intro h5
    refine Tr.draw 6 mixed (by kernel_rfl) ?_; refine jx3 ?_; refine jd (ct_fsmall (k : Int) zo) ?_; refine jd (ct_wtimes (nth p k) (k : Int) zo (by have := dl_small (F := (k : Int)) zo zo; omega)) ?_; refine RunD.new (ok_bsl eZ 20 (fun hp => .cons rfl <| .nil) rfl rfl rfl rfl) rfl rfl rfl rfl ?_; refine jx2 ?_; refine jl ?_; refine jx8 ?_
    exact End.lp (k + 1) zi zo (Ent.mk (.o rfl (by simp only [List.length_cons, List.length_nil]; omega) rfl <| .i rfl zi <| zk) (.a (by rw [drv_take zo zo, Nat.add_sub_cancel]) (by simp only [List.length_cons, List.length_nil]; omega) <| .nil) rfl)
   ·intro h5
    replace h5 := Int.not_lt.1 h5
    refine jx7 ?_
    exact End.lp (k + 1) zi zo (Ent.mk (.o rfl zo rfl <| .i rfl zi <| zk) (.a (by rw [show k = 0 by omega]) zo <| .nil) rfl)
  ·intro h3
   replace h3 := Int.not_lt.1 h3
   refine jx4 ?_
   exact End.cut (k) zo (Ent.mk (.o rfl zi rfl <| .i rfl zi <| zk) (zk) rfl)
 ·rintro k hkn
  refine je ?_
  have htk : (drv p).take (k - 1) = drv p := List.take_of_length_le (by rw [drv_len]; omega)
  refine jx7 ?_; refine Tr.frz 33 [2] ⟨rfl, trivial⟩ (by simp only [lenMax]; omega) rfl ?_; refine jx1 ?_; exact Rts.res1 (fn := Tryz.f221) rfl (.r rfl (by rw [htk]) <| .nil)

theorem ct_fcut (ys : List Int) (m L : Nat) (hl : ys.length = L) (hm : m ≤ L) (hL : L ≤ 1000000) : CtLr Tryz.prog 228 [kOsq 0 2 0 m] (cArr false 160 eZ ys L) (cArr false 160 eZ ys L) (kOsq 0 2 0 (trimL (ys.take m)).length) := by
 refine CtLr.mk Tryz.func228 rfl Tryz.ntmps228 rfl rfl (fun w J bb cap => ?_); refine jn ?_; refine jx5 ?_
 refine Tr.for (σ := Nat) [⟨522, true, _, _⟩] [⟨0, _, _⟩] (fun j => [⟨0, true, [0], kOsq 0 2 0 j⟩]) (fun j => []) (fun j => j ≤ m ∧ ∀ i, j ≤ i → i < m → nth ys i = 0) (fun j => (trimL (ys.take m)).length = j) (fun j => j) (m) ⟨Nat.le_refl _, fun i h1 h2 => by omega⟩ (Ent.mk (.q rfl zi zi rfl <| zk) (zk) rfl) ?_ ?_
 ·rintro j ⟨hj, hR⟩
  refine jn ?_; refine jx4 ?_; refine tO (ok_lenQ rfl uu) rfl rfl ?_; refine jx4 ?_; refine TrL.gd rfl rfl rfl (ok_lenQ rfl id) rfl rfl ?_; refine TrL.gd rfl rfl rfl (ok_sub rfl id rfl uu (fun hp => by simp at hp; omega)) rfl rfl ?_; refine TrL.gd rfl rfl rfl (ok_idxQw L rfl id rfl id (fun hp => by simp at hp; omega)) rfl rfl ?_; refine TrL.gd rfl rfl rfl (ok_ldEA rfl id rfl rfl rfl rfl) rfl rfl ?_; refine TrL.gd rfl rfl rfl (ok_call (fun hp => ct_wsign (nth ys (0 + ((j : Int) - 1).toNat))) (.a rfl id <| .nil)) rfl rfl ?_; refine jx4 ?_; refine Tr.cnd rfl ?_ ?_
  ·intro h1
   try simp only [decide_eq_true_eq, Bool.and_eq_true] at h1
   have hz : 0 < j ∧ nth ys (j - 1) = 0 := ⟨by omega, by have := cmpZ_z.1 h1.2; rwa [show 0 + ((j : Int) - 1).toNat = j - 1 by omega] at this⟩
   refine jx6 ?_; refine tO (ok_lenQ rfl uu) rfl rfl ?_; refine jx1 ?_; refine tO (ok_slQh rfl uu rfl uu (fun _ => zo)) rfl rfl ?_; refine jx3 ?_; exact End.lp (j - 1) ⟨by omega, fun i h1 h2 => by by_cases e : i = j - 1; (rw [e]; exact hz.2); exact hR i zo h2⟩ zo (Ent.mk (.q rfl rfl zo rfl <| zk) (zk) rfl)
  ·intro h1
   try simp only [decide_eq_true_eq, decide_eq_false_iff_not, Bool.and_eq_false_imp] at h1
   have hnz : ¬ (0 < j ∧ nth ys (j - 1) = 0) := fun ⟨q1, q2⟩ => h1 zo (cmpZ_z.2 (by rw [show 0 + ((j : Int) - 1).toNat = j - 1 by omega]; exact q2))
   refine jx4 ?_
   exact End.cut (j) (cut_end zo hj hR hnz) (Ent.mk (.q rfl zi zi rfl <| zk) (zk) rfl)
 ·intro j hE
  refine jn ?_; refine jx7 ?_; exact Rts.loanR (fn := Tryz.f228) (s := 522) (t := 2) rfl rfl rfl (fun _ _ h => cArr_go rfl h) (fun _ _ hm h => osq_back hm ((by rw [hE]; exact h)))

theorem ct_cloneP (p : List Int) (hn : p.length ≤ 1000000) : CtN Tryz.prog 227 [kRd (eL eZ) p] (fun t => kOsl t p.length) (cArr false 160 eZ p p.length) := by
 refine CtN.mk Tryz.func227 rfl Tryz.ntmps227 rfl (fun w J => ?_); refine jx9 ?_; refine tO (ok_eqlNilJ rfl uu) rfl rfl ?_; refine jx2 ?_; refine Tr.exB (s := 4) rfl (fun b1 q1 => ?_); refine Tr.cnd rfl ?_ ?_
 ·intro h1
  have he1 : [] = p := (q1 h1).symm
  have he2 : 0 = p.length := by rw [← he1]; rfl
  refine jx5 ?_; refine Tr.grow (s := 2) rfl rfl 9 rfl 160 eZ rfl ?_; refine jx2 ?_
  exact Rts.resN (fn := Tryz.f227) (u := 9) rfl rfl (arr_res zi zi) (osl_res zi) inferInstance
 ·intro h1
  refine jx4 ?_; refine TrL.new (ok_bsl0 eZ 5) rfl rfl rfl rfl ?_; refine jx2 ?_; refine jl ?_; refine jx4 ?_
  exact Rts.resN (fn := Tryz.f227) (u := 5) rfl rfl (arr_res zi zi) (osl_res zi) inferInstance

set_option maxHeartbeats 2000000 in
theorem ct_fagainst (p q : List Int) (A B : Nat) (hp1 : 1 ≤ p.length) (h5 : p.length ≤ 5) (hq1 : 1 ≤ q.length) (hq5 : q.length ≤ 5) (hA : ∀ i, dl (nth p i) ≤ A) (hB : ∀ i, dl (nth q i) ≤ B) (hA2 : A ≤ 10000) (hB2 : B ≤ 10000) : Ct Tryz.prog 222 [kRd (eL eZ) p, kRd (eL eZ) q] (kRd (eL eZ) (against p q)) := by
 have hqt : ((q.length : Int) - 1).toNat = q.length - 1 := by omega
 have hBt := hB (q.length - 1)
 have hBt2 := dl_mul (nth q (q.length - 1)) (nth q (q.length - 1))
 refine Ct.mk Tryz.func222 rfl Tryz.ntmps222 rfl (fun w J => ?_); refine jx8 ?_; refine TrL.new (ok_callN 13 (fun hp => ct_cloneP _ zo) (.a rfl uu <| .nil)) rfl rfl rfl rfl ?_; refine jx10 ?_
 rw [hqt]
 refine jx1 ?_; refine ja 6 ?_; refine jx7 ?_; refine jc (ct_wtimes (nth q (q.length - 1)) (nth q (q.length - 1)) zo zo) ?_; refine ja 7 ?_; refine jx3 ?_; refine Tr.osq 5 2 rfl zo ?_
 refine Tr.for (σ := List Int × Nat) [⟨1, true, _, _⟩, ⟨6, true, _, _⟩, ⟨7, true, _, _⟩] [⟨6, _, _⟩, ⟨7, _, _⟩] (fun (ys, m) => [⟨5, true, [13], kOsq 13 2 0 m⟩]) (fun (ys, m) => [⟨13, [], cArr false 160 eZ ys p.length⟩]) (fun (ys, m) => ys.length = p.length ∧ m ≤ p.length ∧ agF q m (ys.take m) = agF q p.length p ∧ ∀ i, i < m → dl (nth ys i) ≤ A + (p.length - m) * (2 * B + 1)) (fun (ys, m) => ys.length = p.length ∧ m ≤ p.length ∧ ys.take m = agF q p.length p) (fun (ys, m) => m) ((p, p.length)) ⟨rfl, Nat.le_refl _, by rw [List.take_length], fun i _ => by have := hA i; omega⟩ (Ent.mk (.q rfl zi zi rfl <| zk) (zk) rfl) ?_ ?_
 ·rintro ⟨ys, m⟩ ⟨hyl, hm, hag, hyb⟩
  refine jn ?_
  have htl : (ys.take m).length = m := by rw [List.length_take]; omega
  have hmB : (p.length - m) * (2 * B + 1) ≤ 5 * 20001 := Nat.mul_le_mul zo zo
  refine jx4 ?_; refine tO (ok_lenQ rfl uu) rfl rfl ?_; refine jx5 ?_; refine jq ?_ ?_
  ·intro h4
   refine jx4 ?_; refine Tr.draw 9 mixed (by kernel_rfl) ?_; refine jx2 ?_; refine rO (ok_lenQ rfl uu) rfl rfl ?_; refine jx1 ?_; refine rO (ok_idxQw p.length rfl uu rfl uu (fun _ => zo)) rfl rfl ?_; refine rO (ok_ldEA rfl uu rfl rfl rfl rfl) rfl rfl ?_; refine jx1 ?_; refine jd (ct_wtimes (nth ys (0 + ((m : Int) - 1).toNat)) (nth q (q.length - 1)) (by have h := hyb (m - 1) zo; rw [show 0 + ((m : Int) - 1).toNat = m - 1 by omega]; omega) zo) ?_; refine RunD.new (ok_alloc 8) rfl rfl rfl rfl ?_; refine jx7 ?_; refine tO (ok_lenQ rfl uu) rfl rfl ?_; refine jx10 ?_
   refine tO (ok_lenQ rfl uu) rfl rfl ?_; refine jx3 ?_
   refine Tr.for1 (σ := Nat) [⟨1, true, _, _⟩, ⟨5, true, _, _⟩, ⟨6, true, _, _⟩, ⟨7, true, _, _⟩, ⟨8, true, _, _⟩, ⟨9, true, _, _⟩, ⟨42, true, _, _⟩] [⟨6, _, _⟩, ⟨7, _, _⟩, ⟨8, _, _⟩] (fun k => [⟨43, true, [], kI (k : Int)⟩]) (fun k => [⟨13, [], cArr false 160 eZ (agI q ys m k) p.length⟩]) (fun k => k ≤ m) (fun k => k = m) (fun k => m - k) (0) zi (Ent.mk (.i rfl zi <| zk) (.a agI_zero zi <| zk) rfl) ?_ ?_
   ·intro k hR1
    refine jn ?_
    have hyk := fun (h : k < m) => hyb k h
    have hat := fun (h : k < ys.length) => agI_at (q := q) (ys := ys) (m := m) h
    have hst := fun (h : k < m) (x : Int) => (show nth ((agI q ys m k).set k x) k = x by rw [nth_set (by rw [agI_len]; omega), if_pos rfl])
    refine jx6 ?_; refine jq ?_ ?_
    ·intro h8
     refine jx11 ?_; refine Tr.draw 8 mixed (by kernel_rfl) ?_; refine jx4 ?_; refine rO (ok_idxQw p.length rfl uu rfl uu (fun _ => zo)) rfl rfl ?_; refine rO (ok_ldEA rfl uu rfl rfl rfl rfl) rfl rfl ?_; refine jx1 ?_; refine jd (ct_wtimes (nth (agI q ys m k) (0 + (k : Int).toNat)) ((nth q (q.length - 1)) * (nth q (q.length - 1))) (by rw [show 0 + (k : Int).toNat = k by omega, hat zo]; have := hyk zo; omega) zo) ?_; refine jx1 ?_; refine tO (ok_idxQw p.length rfl uu rfl uu (fun _ => zo)) rfl rfl ?_; refine jx10 ?_; refine jq ?_ ?_
     ·intro h11
      refine Tr.draw 16 mixed (by kernel_rfl) ?_; refine jx4 ?_; refine rO (ok_idxQw p.length rfl uu rfl uu (fun _ => zo)) rfl rfl ?_; refine rO (ok_ldEA rfl uu rfl rfl rfl rfl) rfl rfl ?_; refine jx7 ?_; refine rO (ok_call (fun hp => ct_wtimes (nth ys (0 + ((m : Int) - 1).toNat) * (nth q (q.length - 1))) (nth q ((k : Int) - ((m : Int) - (q.length : Int))).toNat) (by have h := hyb (m - 1) zo; rw [show 0 + ((m : Int) - 1).toNat = m - 1 by omega]; have h2 := dl_mul (nth ys (m - 1)) (nth q (q.length - 1)); omega) (Nat.le_trans (hB _) zo)) (.se rfl uu rfl rfl <| .a rfl uu <| .nil)) rfl rfl ?_
      refine jd (ct_wminus (nth ys (0 + ((m : Int) - 1).toNat) * (nth q (q.length - 1)) * nth q ((k : Int) - ((m : Int) - (q.length : Int))).toNat)) ?_; refine rO (ok_call (fun hp => ct_wplus _ _ (by rw [show 0 + (k : Int).toNat = k by omega, hst zo, hat zo]; have := hyk zo; have h2 := dl_mul (nth ys k) (nth q (q.length - 1) * nth q (q.length - 1)); omega) (by rw [dl_neg, show 0 + ((m : Int) - 1).toNat = m - 1 by omega]; have h := hyb (m - 1) zo; have h2 := dl_mul (nth ys (m - 1)) (nth q (q.length - 1)); have h3 := dl_mul (nth ys (m - 1) * nth q (q.length - 1)) (nth q ((k : Int) - ((m : Int) - (q.length : Int))).toNat); have h4 := hB ((k : Int) - ((m : Int) - (q.length : Int))).toNat; omega)) (.a rfl uu <| .a rfl uu <| .nil)) rfl rfl ?_
      refine jx1 ?_; refine tO (ok_idxQw p.length rfl uu rfl uu (fun _ => zo)) rfl rfl ?_; refine jx8 ?_
      exact End.lp (k + 1) zi zo (Ent.mk (.i rfl zi <| zk) (.a (by rw [show 0 + (k : Int).toNat = k by omega, hst zo, hat zo, show 0 + ((m : Int) - 1).toNat = m - 1 by omega, show ((k : Int) - ((m : Int) - (q.length : Int))).toNat = k - (m - q.length) by omega]; exact agI_set2 (by rw [agT_at zo zo, if_pos zo])) zi <| zk) rfl)
     ·intro h11
      replace h11 := Int.not_le.1 h11
      refine jx7 ?_
      exact End.lp (k + 1) zi zo (Ent.mk (.i rfl zi <| zk) (.a (by rw [show 0 + (k : Int).toNat = k by omega, hat zo]; exact agI_set (by rw [agT_at zo zo, if_neg zo, Int.add_zero])) zi <| zk) rfl)
    ·intro h8
     replace h8 := Int.not_lt.1 h8
     refine jx4 ?_
     exact End.cut (k) zo (Ent.mk (.i rfl zi <| zk) (zk) rfl)
   ·rintro k hkm
    refine je ?_; refine jx3 ?_; refine TrL.loanR (u := 13) (ct_fcut (agI q ys m m) m p.length (by rw [agI_len]; omega) zo zo) (.a rfl <| .nil) zo (by rw [hkm]) rfl ?_; refine jx3 ?_; exact End.lp ((agI q ys m m, (agR q (ys.take m)).length)) (ag_next hq1 hyl hm zo hag hyb hB) (by have := agR_len hq1 (r := ys.take m) zo; show (agR q (ys.take m)).length < m; omega) (Ent.mk (.q rfl rfl (by rw [agI_take zo]; rfl) rfl <| zk) (zk) rfl)
  ·intro h4
   replace h4 := Int.not_le.1 h4
   refine jx4 ?_
   exact End.cut ((ys, m)) ⟨hyl, hm, by rw [← hag]; have := agF_end (q := q) (r := ys.take m) zo; rw [htl] at this; exact this.symm⟩ (Ent.mk (.q rfl zi zi rfl <| zk) (zk) rfl)
 ·rintro ⟨ys, m⟩ ⟨hyl, hm, hag⟩
  refine jn ?_
  have htl : (ys.take m).length = m := by rw [List.length_take]; omega
  refine jx4 ?_; refine tO (ok_lenQ rfl uu) rfl rfl ?_; refine jx3 ?_
  refine Tr.for1 (σ := Nat) [⟨5, true, _, _⟩, ⟨79, true, _, _⟩] [] (fun k => [⟨80, true, [], kI (k : Int)⟩]) (fun k => [⟨13, [], cArr false 160 eZ (ngI ys k) p.length⟩]) (fun k => k ≤ m) (fun k => k = m) (fun k => m - k) (0) zi (Ent.mk (.i rfl zi <| zk) (.a ngI_zero zi <| .nil) rfl) ?_ ?_
  ·intro k hR2
   refine jn ?_; refine jx6 ?_; refine jq ?_ ?_
   ·intro h16
    refine jx15 ?_; refine tO (ok_idxQw p.length rfl uu rfl uu (fun _ => zo)) rfl rfl ?_; refine tO (ok_ldEA rfl uu rfl rfl rfl rfl) rfl rfl ?_; refine jc (ct_wminus (nth (ngI ys k) (0 + (k : Int).toNat))) ?_; refine tO (ok_idxQw p.length rfl uu rfl uu (fun _ => zo)) rfl rfl ?_; refine jx8 ?_
    exact End.lp (k + 1) zi zo (Ent.mk (.i rfl zi <| zk) (.a (by rw [show 0 + (k : Int).toNat = k by omega]; exact ngI_set zo) zi <| .nil) rfl)
   ·intro h16
    replace h16 := Int.not_lt.1 h16
    refine jx4 ?_
    exact End.cut (k) zo (Ent.mk (.i rfl zi <| zk) (zk) rfl)
  ·rintro k hkm2
   refine je ?_; refine jx4 ?_; refine TrL.frzQ 13 [92] ⟨rfl, trivial⟩ ⟨by omega, by simp only [lenMax]; omega⟩ rfl ?_; refine jl ?_; refine jx4 ?_; exact Rts.res1 (fn := Tryz.f222) rfl (.r rfl (by unfold against; rw [← hag, hkm2, ngI_take zo]) <| .nil)

end Go.Fl

/- Contracts: roots between two fractions, fields. -/
namespace Go.Fl
open Go Go.Proofs
open TrL renaming op → tO
open RunD renaming op → rO
set_option maxRecDepth 100000

def oneB (f : FdT) : Bool := if f.1.length = 2 then decide (f.2.1 ≤ -nth f.1 0 * f.2.2.2 ∧ -nth f.1 0 * f.2.2.2 ≤ f.2.2.1) else decide (((chg (sgCh f.1 f.2.1 f.2.2.2)).1 : Int) - (chg (sgCh f.1 f.2.2.1 f.2.2.2)).1 = 1)
noncomputable def chkF (f : FdT) : Int :=
 if ¬ (2 ≤ f.1.length ∧ f.1.length ≤ 5) then 10
 else if f.1.any outCf = true then 2
 else if ¬ ((1 ≤ f.2.2.2 ∧ f.2.2.2 ≤ 1000000) ∧ (-1000000 ≤ f.2.1 ∧ f.2.1 ≤ 1000000) ∧ (-1000000 ≤ f.2.2.1 ∧ f.2.2.1 ≤ 1000000)) then 2
 else if nth f.1 (f.1.length - 1) ≠ 1 ∨ redB f.1 = true then 3
 else if f.2.1 > f.2.2.1 then 9
 else if oneB f = false then 11 else 0
theorem chg_sn (l : List Int) (h : ∀ s ∈ l, -1 ≤ s ∧ s ≤ 1) : -1 ≤ (chg l).2 ∧ (chg l).2 ≤ 1 := by
 have key : ∀ (l : List Int) (st : Nat × Int), (∀ s ∈ l, -1 ≤ s ∧ s ≤ 1) → (-1 ≤ st.2 ∧ st.2 ≤ 1) → -1 ≤ (l.foldl chgS st).2 ∧ (l.foldl chgS st).2 ≤ 1 := by
  intro l
  induction l with
  | nil => intro st _ h; exact h
  | cons s l ih =>
   intro st h1 h2
   rw [List.foldl_cons]
   refine ih _ (fun x hx => h1 x (List.mem_cons_of_mem _ hx)) ?_
   have := h1 s List.mem_cons_self
   unfold chgS; simp only; split <;> assumption
 exact key l (0, 0) h (by decide)
theorem mul_one3 {s l : Int} (h1 : -1 ≤ s ∧ s ≤ 1) (h2 : -1 ≤ l ∧ l ≤ 1) : -1 ≤ s * l ∧ s * l ≤ 1 := by
 rcases (show s = -1 ∨ s = 0 ∨ s = 1 by omega) with rfl | rfl | rfl <;> omega
theorem outCf_ok {p : List Int} (h : p.any outCf ≠ true) (i : Nat) : (nth p i).natAbs ≤ 1000 := by
 by_cases hi : i < p.length
 ·have := List.any_eq_false.1 (by simpa using h) (nth p i) (nth_mem hi)
  unfold outCf at this
  simp at this
  omega
 ·rw [nth_out zo]; show (0 : Int).natAbs ≤ _; omega
theorem nth_takeG {α : Type} [Inhabited α] {xs : List α} {i k : Nat} (h : i < k) : nth (xs.take k) i = nth xs i := by simp [nth, List.getD, h]
theorem ct_roots1 (a d : Int) (ch : List (List Int)) (ha : -1000000 ≤ a ∧ a ≤ 1000000) (hd : 1 ≤ d ∧ d ≤ 1000000) (hl : ch.length ≤ 5) (hc : ∀ j, j < ch.length → (nth ch j).length ≤ 5 ∧ ∀ i, dl (nth (nth ch j) i) ≤ 1681) : Ct Tryz.prog 223 [kI a, kPtr (eL (eL eZ)) ch, kPtr eI d] (kI ((chg (ch.map fun q => sgn (hvP a d q).1)).1 : Int)) := by
 obtain ⟨sl, hsl⟩ : ∃ sl, sl = (ch.map fun q => sgn (hvP a d q).1) := ⟨_, rfl⟩
 have hll : sl.length = ch.length := by rw [hsl, List.length_map]
 have hsn : ∀ j, j < ch.length → nth sl j = sgn (hvP a d (nth ch j)).1 := fun j hj => by rw [hsl]; simp [nth, hj]
 have hsb : ∀ s ∈ sl, -1 ≤ s ∧ s ≤ 1 := fun s hs => by rw [hsl] at hs; obtain ⟨q, _, rfl⟩ := List.mem_map.1 hs; exact sgn_bd _
 have hcle := fun k => chg_le (l := sl.take k)
 have htk : ∀ k, (sl.take k).length ≤ 5 := fun k => by rw [List.length_take]; omega
 rw [← hsl]
 have had := dl_small (F := d) zo zo
 have haa : dl a ≤ 1 := dl_le (by simp [BP]; omega)
 refine Ct.mk Tryz.func223 rfl Tryz.ntmps223 rfl (fun w J => ?_); refine jx19 ?_
 refine Tr.for1 (σ := Nat) [⟨0, true, _, _⟩, ⟨2, true, _, _⟩, ⟨10, true, _, _⟩, ⟨11, true, _, _⟩] [] (fun k => [⟨5, true, [], kI ((chg (sl.take k)).1 : Int)⟩, ⟨6, true, [], kI (chg (sl.take k)).2⟩, ⟨12, true, [], kI (k : Int)⟩]) (fun k => []) (fun k => k ≤ ch.length) (fun k => k = ch.length) (fun k => ch.length - k) (0) zi (Ent.mk (.i rfl (by rfl) <| .i rfl (by rfl) <| .i rfl zi <| zk) (.nil) rfl) ?_ ?_
 ·intro k hR0
  refine jn ?_
  have hck := fun (h : k < ch.length) => hc k h
  have hcs := fun (h : k < ch.length) => chg_succ (l := sl) (k := k) zo
  have hsk := fun (h : k < ch.length) => hsn k h
  have hb1 := sgn_bd (hvP a d (nth ch k)).1
  have hb2 := chg_sn (sl.take k) (fun s hs => hsb s (List.mem_of_mem_take hs))
  have hb3 := mul_one3 hb1 hb2
  have hb4 := hcle k
  have hb5 := htk k
  refine jx6 ?_; refine jq ?_ ?_
  ·intro h3
   refine jx12 ?_; refine Tr.draw 5 mixed (by kernel_rfl) ?_
   replace hck := hck zo
   refine jx2 ?_; refine jd (ct_fsmall a zo) ?_; refine jx1 ?_; refine jd (ct_fsmall d zo) ?_; refine jx1 ?_; refine jc (ct_signAt (nth ch k) a d 1 1681 zo hck.2 haa had zo zo) ?_; refine jx12 ?_; refine jq ?_ ?_
   ·intro h6
    refine jx12 ?_; refine jq ?_ ?_
    ·intro h8
     refine jx10 ?_
     exact End.lp (k + 1) zi zo (Ent.mk (.i rfl (by rw [hcs zo, hsk zo]; unfold chgS; simp only; split <;> omega) <| .i rfl (by rw [hcs zo, hsk zo]; unfold chgS; simp only; split <;> omega) <| .i rfl zi <| zk) (.nil) rfl)
    ·intro h8
     replace h8 := Classical.not_not.1 h8
     refine jx7 ?_
     exact End.lp (k + 1) zi zo (Ent.mk (.i rfl (by rw [hcs zo, hsk zo]; unfold chgS; simp only; split <;> omega) <| .i rfl (by rw [hcs zo, hsk zo]; unfold chgS; simp only; split <;> omega) <| .i rfl zi <| zk) (.nil) rfl)
   ·intro h6
    replace h6 := Int.not_lt.1 h6
    refine jx8 ?_; refine jq ?_ ?_
    ·intro h8
     refine jx10 ?_
     exact End.lp (k + 1) zi zo (Ent.mk (.i rfl (by rw [hcs zo, hsk zo]; unfold chgS; simp only; split <;> omega) <| .i rfl (by rw [hcs zo, hsk zo]; unfold chgS; simp only; split <;> omega) <| .i rfl zi <| zk) (.nil) rfl)
    ·intro h8
     replace h8 := Classical.not_not.1 h8
     refine jx7 ?_
     exact End.lp (k + 1) zi zo (Ent.mk (.i rfl (by rw [hcs zo, hsk zo]; unfold chgS; simp only; split <;> omega) <| .i rfl (by rw [hcs zo, hsk zo]; unfold chgS; simp only; split <;> omega) <| .i rfl zi <| zk) (.nil) rfl)
  ·intro h3
   replace h3 := Int.not_lt.1 h3
   refine jx4 ?_
   exact End.cut (k) zo (Ent.mk (.i rfl zi <| .i rfl zi <| .i rfl zi <| zk) (.nil) rfl)
 ·rintro k hkn
  refine je ?_
  have htl : sl.take k = sl := List.take_of_length_le zo
  refine jx8 ?_; exact Rts.res1 (fn := Tryz.f223) rfl (.i rfl (by rw [htl]) <| .nil)

set_option maxHeartbeats 1000000 in
theorem ct_froots (p : List Int) (lo hi d : Int) (h3' : 3 ≤ p.length) (h5' : p.length ≤ 5) (h1' : nth p (p.length - 1) = 1) (hs : ∀ i, (nth p i).natAbs ≤ 1000) (hlo : -1000000 ≤ lo ∧ lo ≤ 1000000) (hhi : -1000000 ≤ hi ∧ hi ≤ 1000000) (hd : 1 ≤ d ∧ d ≤ 1000000) : Ct Tryz.prog 213 [kRd (eL eZ) p, kI lo, kI hi, kI d] (kI (((chg (sgCh p lo d)).1 : Int) - (chg (sgCh p hi d)).1)) := by
 have hdd := (drv_dl h3' h5' h1' hs).1
 have hL5 := chS_len h3' h5' h1' hs
 have hel := fun (j : Nat) (hj : j < (chS p).length) => chS_el h3' h5' h1' hs hj
 have hne := fun (j : Nat) (hj : j < (chS p).length) => List.length_pos_iff.2 (chS_ne h3' h5' h1' hj)
 have hL2 : 2 ≤ (chS p).length := by unfold chS; simp
 have hcl : ∀ a : Int, (chg (sgCh p a d)).1 ≤ 5 := fun a => by have := chg_le (l := sgCh p a d); unfold sgCh at this ⊢; rw [List.length_map] at this; omega
 have hc1 : (chg ((chS p).map fun q => sgn (hvP lo d q).1)).1 ≤ 5 := hcl lo
 have hc2 : (chg ((chS p).map fun q => sgn (hvP hi d q).1)).1 ≤ 5 := hcl hi
 refine Ct.mk Tryz.func213 rfl Tryz.ntmps213 rfl (fun w J => ?_); refine jx2 ?_; refine jb 7 rfl ?_; refine jx7 ?_; refine jc (ct_fderived p zo h5' hdd) ?_; refine TrL.new (ok_bsl (eL eZ) 15 (fun hp => .cons rfl <| .cons rfl <| .nil) rfl rfl rfl rfl) rfl rfl rfl rfl ?_; refine ja 9 ?_; refine jx3 ?_
 refine Tr.for (σ := Nat) [⟨1, true, _, _⟩, ⟨2, true, _, _⟩, ⟨7, true, _, _⟩, ⟨9, true, _, _⟩] [⟨7, _, _⟩] (fun m => []) (fun m => [⟨9, [15], cBlk [kOsl 15 m]⟩, ⟨15, [], cArr false 193 (eL eZ) ((chS p).take m) m⟩]) (fun m => 2 ≤ m ∧ m ≤ (chS p).length) (fun m => m = (chS p).length) (fun m => (chS p).length - m) (2) ⟨Nat.le_refl _, hL2⟩ (Ent.mk (zk) (.k rfl <| .a (by rfl) zi <| zk) rfl) ?_ ?_
 ·intro m hR0
  refine jn ?_
  have hX : nth ((chS p).take m) ((m : Int) - 2).toNat = nth (chS p) (m - 2) := by rw [show ((m : Int) - 2).toNat = m - 2 by omega]; exact nth_takeG zo
  have hY : nth ((chS p).take m) ((m : Int) - 1).toNat = nth (chS p) (m - 1) := by rw [show ((m : Int) - 1).toNat = m - 1 by omega]; exact nth_takeG zo
  refine jx2 ?_; refine Tr.draw 12 mixed (by kernel_rfl) ?_; refine jx2 ?_; refine rO (ok_lenO rfl uu) rfl rfl ?_; refine jx3 ?_
  rw [hX]
  refine jx2 ?_; refine rO (ok_lenO rfl uu) rfl rfl ?_; refine jx3 ?_
  rw [hY]
  refine jx1 ?_; refine tO (ok_call (fun hp => ct_fagainst (nth (chS p) (m - 2)) (nth (chS p) (m - 1)) 1681 1681 (hne _ zo) (by have := (hel (m - 2) zo).2.1; omega) (hne _ zo) (by have := (hel (m - 1) zo).2.1; omega) (hel _ zo).2.2 (hel _ zo).2.2 zo zo) (.a rfl uu <| .a rfl uu <| .nil)) rfl rfl ?_; refine jx11 ?_; refine jq ?_ ?_
  ·intro h3
   have hmL : m = (chS p).length := Classical.byContradiction fun e => by have hq := chS_next h3' h5' h1' hR0.1 hR0.2; rw [if_pos zo] at hq; have := List.length_pos_iff.2 (hq.2 zo); rw [← hq.1] at this; omega
   refine jx5 ?_; exact End.cut (m) hmL (Ent.mk (zk) (zk) rfl)
  ·intro h3
   have hq := chS_next h3' h5' h1' hR0.1 hR0.2
   have hmL : m < (chS p).length := Classical.byContradiction fun e => by rw [if_neg e] at hq; rw [hq.1] at h3; exact h3 rfl
   rw [if_pos hmL] at hq
   rw [hq.1]
   refine jx5 ?_; refine TrL.new (ok_bsl (eL eZ) 34 (fun hp => .cons rfl <| .nil) rfl rfl rfl rfl) rfl rfl rfl rfl ?_; refine TrL.wkC 9 (.any <| .nil) rfl ?_; refine jx1 ?_; refine jl ?_; refine jx3 ?_
   exact End.lp (m + 1) zi zo (Ent.mk (zk) (.e (by rfl) rfl <| .a (by rw [take_succ_nth hmL]) zi <| zk) rfl)
 ·rintro m hmL
  refine jn ?_
  have htk : (chS p).take m = chS p := by rw [hmL, List.take_length]
  rw [htk]
  refine jx1 ?_; refine Tr.frzC 15 9 (by simp only [lenMax]; omega) rfl rfl ?_; refine jn ?_; refine Tr.frzB 9 [9] (eL (eL eZ)) ⟨rfl, trivial⟩ rfl ?_; refine Tr.frzB 7 [7] eI ⟨rfl, trivial⟩ rfl ?_; refine jn ?_; refine jx1 ?_; refine tO (ok_clo (.cons rfl uu <| .cons rfl uu <| .nil)) rfl rfl ?_; refine jx7 ?_; refine tO (ok_callK rfl uu (fun hp => ct_roots1 lo d (chS p) hlo hd hL5 (fun j hj => ⟨by have := (hel j hj).2.1; omega, (hel j hj).2.2⟩)) (.a rfl uu <| .nil)) rfl rfl ?_; refine jx2 ?_; refine tO (ok_callK rfl uu (fun hp => ct_roots1 hi d (chS p) hhi hd hL5 (fun j hj => ⟨by have := (hel j hj).2.1; omega, (hel j hj).2.2⟩)) (.a rfl uu <| .nil)) rfl rfl ?_
  refine jx5 ?_; exact Rts.res1 (fn := Tryz.f213) rfl (.i rfl (by rfl) <| .nil)

theorem ct_fone (f : FdT) (h2' : 2 ≤ f.1.length) (h5' : f.1.length ≤ 5) (h1' : nth f.1 (f.1.length - 1) = 1) (hs : ∀ i, (nth f.1 i).natAbs ≤ 1000) (hd : 1 ≤ f.2.2.2 ∧ f.2.2.2 ≤ 1000000) (hlo : -1000000 ≤ f.2.1 ∧ f.2.1 ≤ 1000000) (hhi : -1000000 ≤ f.2.2.1 ∧ f.2.2.1 ≤ 1000000) : Ct Tryz.prog 189 [kRd eFd f] (kB (oneB f)) := by
 have hm0 : (-nth f.1 0 * f.2.2.2).natAbs ≤ 1000 * 1000000 := mul_ab (by rw [Int.natAbs_neg]; exact hs 0) zo
 have hs0 := hs 0
 have hf : ∀ i, -9223372036854775808 ≤ nth f.1 i ∧ nth f.1 i ≤ 9223372036854775807 := fun i => by have := hs i; omega
 refine Ct.mk Tryz.func189 rfl Tryz.ntmps189 rfl (fun w J => ?_); refine jx2 ?_; refine jb 1 rfl ?_; refine jx5 ?_; refine Tr.frzB 1 [1] eFd (x := f) ⟨rfl, trivial⟩ rfl ?_; refine jn ?_; refine jx7 ?_; refine jq ?_ ?_
 ·intro h1
  have hb : oneB f = decide (f.2.1 ≤ -nth f.1 0 * f.2.2.2 ∧ -nth f.1 0 * f.2.2.2 ≤ f.2.2.1) := if_pos zo
  refine jx1 ?_; refine Tr.draw 12 mixed (by kernel_rfl) ?_; refine jx2 ?_; refine rO (ok_idxN (i := 0) rfl uu rfl uu rfl (fun _ => zo)) rfl rfl ?_; refine jx1 ?_; refine rO (ok_neg rfl uu (fun _ => zo)) rfl rfl ?_; refine jx8 ?_; refine tO (ok_call (fun hp => ct_between _ _ _) (.a rfl uu <| .a rfl uu <| .a rfl uu <| .nil)) rfl rfl ?_; refine jx5 ?_; exact Rts.res1 (fn := Tryz.f189) rfl (.b rfl (by rw [hb]) <| .nil)
 ·intro h1
  have hb : oneB f = decide (((chg (sgCh f.1 f.2.1 f.2.2.2)).1 : Int) - (chg (sgCh f.1 f.2.2.1 f.2.2.2)).1 = 1) := if_neg zo
  refine jx3 ?_; refine Tr.draw 8 mixed (by kernel_rfl) ?_; refine jx1 ?_; refine jd (ct_polyOf f hf zo) ?_; refine jx7 ?_; refine jc (ct_froots f.1 f.2.1 f.2.2.1 f.2.2.2 zo h5' h1' hs hlo hhi hd) ?_; refine jx5 ?_; exact Rts.res1 (fn := Tryz.f189) rfl (.b rfl (by rw [hb]) <| .nil)

end Go.Fl

/- Contracts: errors of fields, opening. -/
namespace Go.Fl
open Go Go.Proofs
open TrL renaming op → tO
open RunD renaming op → rO
set_option maxRecDepth 100000

theorem chkF_0 {f : FdT} (h : chkF f = 0) : ((2 ≤ f.1.length ∧ f.1.length ≤ 5) ∧ (∀ i, (nth f.1 i).natAbs ≤ 1000) ∧ ((1 ≤ f.2.2.2 ∧ f.2.2.2 ≤ 1000000) ∧ (-1000000 ≤ f.2.1 ∧ f.2.1 ≤ 1000000) ∧ (-1000000 ≤ f.2.2.1 ∧ f.2.2.1 ≤ 1000000))) ∧ nth f.1 (f.1.length - 1) = 1 ∧ redB f.1 = false ∧ f.2.1 ≤ f.2.2.1 ∧ oneB f = true := by
 unfold chkF at h
 by_cases c1 : 2 ≤ f.1.length ∧ f.1.length ≤ 5
 ·rw [if_neg (fun e => e c1)] at h
  by_cases c2 : f.1.any outCf = true
  ·rw [if_pos c2] at h; exact absurd h (by decide)
  ·rw [if_neg c2] at h
   by_cases c3 : (1 ≤ f.2.2.2 ∧ f.2.2.2 ≤ 1000000) ∧ (-1000000 ≤ f.2.1 ∧ f.2.1 ≤ 1000000) ∧ (-1000000 ≤ f.2.2.1 ∧ f.2.2.1 ≤ 1000000)
   ·rw [if_neg (fun e => e c3)] at h
    by_cases c4 : nth f.1 (f.1.length - 1) ≠ 1 ∨ redB f.1 = true
    ·rw [if_pos c4] at h; exact absurd h (by decide)
    ·rw [if_neg c4] at h
     by_cases c5 : f.2.1 > f.2.2.1
     ·rw [if_pos c5] at h; exact absurd h (by decide)
     ·rw [if_neg c5] at h
      by_cases c6 : oneB f = false
      ·rw [if_pos c6] at h; exact absurd h (by decide)
      ·refine ⟨⟨c1, outCf_ok c2, c3⟩, Classical.byContradiction fun e => c4 (.inl e), ?_, by omega, by simpa using c6⟩
       cases hr : redB f.1 with
       | false => rfl
       | true => exact absurd (.inr hr) c4
   ·rw [if_pos c3] at h; exact absurd h (by decide)
 ·rw [if_pos c1] at h; exact absurd h (by decide)
def ivF (f : FdT) : Iv := ⟨f.2.1, f.2.2.1, f.2.2.2⟩
theorem fld_ok {f : FdT} (h : chkF f = 0) (h3 : 3 ≤ f.1.length) : FldOk f.1 (ivF f) := by
 obtain ⟨⟨c1, c2, c3, c4, c5⟩, c6, c7, c8, c9⟩ := chkF_0 h
 have hred : ¬ RedP (lP f.1) (f.1.length - 1) := redB_P h3 fun e => by rw [redB_t e] at c7; cases c7
 refine ⟨⟨c1, fun i => dl_le (by have := c2 i; simp [BP]; omega)⟩, h3, c6, fun c hc => ?_, ⟨c8, by show 0 < f.2.2.2; omega⟩, ?_, ?_, ?_, c3.2, hred, ?_⟩
 ·obtain ⟨i, hi, rfl⟩ := List.mem_iff_getElem.1 hc
  have := c2 i
  simpa [nth, hi] using this
 ·show -(1000000 * f.2.2.2) ≤ f.2.1; omega
 ·show f.2.2.1 ≤ 1000000 * f.2.2.2; omega
 ·show f.2.2.1 - f.2.1 ≤ 2000000; omega
 ·unfold oneB at c9
  rw [if_neg zo, decide_eq_true_eq] at c9
  exact sturm h3 c1.2 c6 hred (by show 0 < f.2.2.2; omega) c9
def psT (p l : List Int) (n k i : Nat) : Int := nth p (n - (k + 1)) * ((k : Int) + 1) + sumTo (fun j => nth p (n - (j + 1)) * nth l (k - j)) i
def trT (p : List Int) (n : Nat) : Nat → List Int
 | 0 => [(n : Int)]
 | k + 1 => trT p n k ++ [-psT p (trT p n k) n k k]
theorem trT_len {p : List Int} {n : Nat} : ∀ {k : Nat}, (trT p n k).length = k + 1
 | 0 => rfl
 | k + 1 => by rw [trT, List.length_append, trT_len]; rfl
theorem psT_succ {p l : List Int} {n k i : Nat} : psT p l n k (i + 1) = psT p l n k i + nth p (n - (i + 1)) * nth l (k - i) := by unfold psT; rw [sumTo_succ]; omega
theorem psT_dl {p l : List Int} {n k B : Nat} (hp : ∀ i, dl (nth p i) ≤ 1) (hl : ∀ i, dl (nth l i) ≤ B) (hk : k ≤ 4) (hB : 1 ≤ B) : ∀ {i : Nat}, dl (psT p l n k i) ≤ B + 2 + i
 | 0 => by
  unfold psT
  have h1 := hp (n - (k + 1))
  have h2 := dl_small (F := (k : Int) + 1) zo zo
  have h3 := dl_mul (nth p (n - (k + 1))) ((k : Int) + 1)
  simp only [sumTo, Int.add_zero]
  omega
 | i + 1 => by
  have ih := psT_dl (n := n) hp hl hk hB (i := i)
  rw [psT_succ]
  have h1 := hp (n - (i + 1))
  have h2 := hl (k - i)
  have h3 := dl_mul (nth p (n - (i + 1))) (nth l (k - i))
  have h4 := dl_add (psT p l n k i) (nth p (n - (i + 1)) * nth l (k - i))
  omega
theorem trT_dl {p : List Int} {n : Nat} (hp : ∀ i, dl (nth p i) ≤ 1) (hn : n ≤ 4) : ∀ {k : Nat}, k ≤ 4 → ∀ i, dl (nth (trT p n k) i) ≤ 1 + 8 * k
 | 0, _, i => by
  match i with
  | 0 => exact dl_small (F := (n : Int)) zo zo
  | i + 1 => rw [nth_out (by rw [trT_len]; omega)]; show dl 0 ≤ _; rw [dl_zero.2 rfl]; omega
 | k + 1, hk, i => by
  have ih := trT_dl hp hn (k := k) zo
  rw [trT]
  by_cases h : i < (trT p n k).length
  ·have e : nth (trT p n k ++ [-psT p (trT p n k) n k k]) i = nth (trT p n k) i := by simp [nth, List.getD, List.getElem?_append_left h]
   rw [e]; have := ih i; omega
  ·by_cases h2 : i = (trT p n k).length
   ·subst h2
    have e : nth (trT p n k ++ [-psT p (trT p n k) n k k]) (trT p n k).length = -psT p (trT p n k) n k k := by simp [nth]
    rw [e, dl_neg]
    have := psT_dl (n := n) hp ih (k := k) zo zo (i := k)
    omega
   ·rw [nth_out (by rw [List.length_append]; simp; omega)]; show dl 0 ≤ _; rw [dl_zero.2 rfl]; omega
def opI (f : FdT) : Iv := if f.1.length = 2 then ivF f else ivK f.1 (ivF f) 64
def openR (f : FdT) : RlT := (f, f.1, trT f.1 (f.1.length - 1) (f.1.length - 2), (opI f).lo, (opI f).hi, (opI f).den)
theorem op_size {f : FdT} (h : chkF f = 0) (h3 : 3 ≤ f.1.length) {k : Nat} (hk : k ≤ 64) : dl (ivK f.1 (ivF f) k).lo ≤ 73000 ∧ dl (ivK f.1 (ivF f) k).hi ≤ 73000 ∧ dl (ivK f.1 (ivF f) k).den ≤ 73000 := by
 have hf := fld_ok h h3
 have h5 := hf.len4
 obtain ⟨K, q1, _, q3⟩ := hf.bound (cs := List.replicate (f.1.length - 1) 1) (M := 1) (by simp) ⟨1, List.mem_replicate.2 ⟨by omega, rfl⟩, by decide⟩ (fun c hc => by rw [(List.mem_replicate.1 hc).2]; exact dl_small zo zo) zo zo
 exact q3 k zo
theorem ct_fCheckG (f : FdT) : Ct Tryz.prog 157 [kRd eFd f] (kI (chkF f)) := by
 refine Ct.mk Tryz.func157 rfl Tryz.ntmps157 rfl (fun w J => ?_); refine jx2 ?_; refine jb 1 rfl ?_; refine jx4 ?_; refine Tr.frzB 1 [1] eFd (x := f) ⟨rfl, trivial⟩ rfl ?_; refine jn ?_; refine jx12 ?_; refine tO (ok_call (fun hp => ct_between _ _ _) (.a rfl uu <| .a rfl uu <| .a rfl uu <| .nil)) rfl rfl ?_; refine jx4 ?_; refine Tr.cnd rfl ?_ ?_
 ·intro h2
  try simp only [decide_eq_false_iff_not, Bool.not_eq_true'] at h2
  have hc1 : ¬ (2 ≤ f.1.length ∧ f.1.length ≤ 5) := by omega
  have he : chkF f = 10 := if_pos hc1
  refine jx8 ?_; exact Rts.res1 (fn := Tryz.f157) rfl (.i rfl (by rw [he]) <| .nil)
 ·intro h2
  try simp only [decide_eq_true_eq, Bool.not_eq_false'] at h2
  have hc1 : 2 ≤ f.1.length ∧ f.1.length ≤ 5 := by omega
  have he1 := (if_neg (fun e => e hc1) : chkF f = _)
  refine jx4 ?_; refine tO (ok_call (fun hp => ct_ContainsFunc _ 187 outCf (fun x => ct_fCheck1 x)) (.a rfl uu <| .a rfl uu <| .nil)) rfl rfl ?_; refine jx3 ?_; refine Tr.cnd rfl ?_ ?_
  ·intro h4
   have he : chkF f = 2 := he1.trans (if_pos h4)
   refine jx8 ?_; exact Rts.res1 (fn := Tryz.f157) rfl (.i rfl (by rw [he]) <| .nil)
  ·intro h4
   have hc2 : f.1.any outCf ≠ true := by rw [h4]; decide
   have hs := outCf_ok hc2
   have he2 := he1.trans (if_neg hc2)
   refine jx4 ?_; refine tO (ok_call (fun hp => ct_between _ _ _) (.a rfl uu <| .a rfl uu <| .a rfl uu <| .nil)) rfl rfl ?_; refine jx4 ?_; refine TrL.gd rfl rfl rfl (ok_call (fun hp => ct_between _ _ _) (.a rfl id <| .a rfl uu <| .a rfl uu <| .nil)) rfl rfl ?_; refine jx5 ?_; refine TrL.gd rfl rfl rfl (ok_call (fun hp => ct_between _ _ _) (.a rfl id <| .a rfl uu <| .a rfl uu <| .nil)) rfl rfl ?_; refine jx5 ?_; refine Tr.cnd rfl ?_ ?_
   ·intro h6
    have hc3 : ¬ ((1 ≤ f.2.2.2 ∧ f.2.2.2 ≤ 1000000) ∧ (-1000000 ≤ f.2.1 ∧ f.2.1 ≤ 1000000) ∧ (-1000000 ≤ f.2.2.1 ∧ f.2.2.1 ≤ 1000000)) := fun ⟨q1, q2, q3⟩ => by simp [q1, q2, q3] at h6
    have he : chkF f = 2 := he2.trans (if_pos hc3)
    refine jx8 ?_; exact Rts.res1 (fn := Tryz.f157) rfl (.i rfl (by rw [he]) <| .nil)
   ·intro h6
    have hc3 : (1 ≤ f.2.2.2 ∧ f.2.2.2 ≤ 1000000) ∧ (-1000000 ≤ f.2.1 ∧ f.2.1 ≤ 1000000) ∧ (-1000000 ≤ f.2.2.1 ∧ f.2.2.1 ≤ 1000000) := by simp at h6; omega
    have he3 := he2.trans (if_neg (fun e => e hc3))
    refine jx2 ?_
    have hix : ((f.1.length : Int) - 1).toNat = f.1.length - 1 := by omega
    refine jx10 ?_; refine TrL.gd rfl rfl rfl (ok_call (fun hp => ct_divided f.1 hc1.1 hc1.2 hs) (.a rfl id <| .nil)) rfl rfl ?_; refine jx4 ?_; refine Tr.cnd rfl ?_ ?_
    ·intro h8
     have hc4 : nth f.1 (f.1.length - 1) ≠ 1 ∨ redB f.1 = true := by simp [hix] at h8; simpa using h8
     have he : chkF f = 3 := he3.trans (if_pos hc4)
     refine jx8 ?_; exact Rts.res1 (fn := Tryz.f157) rfl (.i rfl (by rw [he]) <| .nil)
    ·intro h8
     have hc4 : nth f.1 (f.1.length - 1) = 1 ∧ redB f.1 = false := by simp [hix] at h8; simpa using h8
     have he4 := he3.trans (if_neg (fun e => e.elim (fun e => e hc4.1) (fun e => by rw [hc4.2] at e; cases e)))
     refine jx10 ?_; refine Tr.cnd rfl ?_ ?_
     ·intro h10
      try simp only [decide_eq_true_eq] at h10
      have he : chkF f = 9 := he4.trans (if_pos h10)
      refine jx8 ?_; exact Rts.res1 (fn := Tryz.f157) rfl (.i rfl (by rw [he]) <| .nil)
     ·intro h10
      try simp only [decide_eq_false_iff_not, Int.not_lt] at h10
      have he5 := he4.trans (if_neg (show ¬ f.2.1 > f.2.2.1 by omega))
      refine jx3 ?_; refine jc (ct_fone f hc1.1 hc1.2 hc4.1 hs hc3.1 hc3.2.1 hc3.2.2) ?_; refine jx4 ?_; refine Tr.cnd rfl ?_ ?_
      ·intro h12
       have hc6 : oneB f = false := by simpa using h12
       have he : chkF f = 11 := he5.trans (if_pos hc6)
       refine jx8 ?_; exact Rts.res1 (fn := Tryz.f157) rfl (.i rfl (by rw [he]) <| .nil)
      ·intro h12
       have hc6 : oneB f = true := by simpa using h12
       have he : chkF f = 0 := he5.trans (if_neg (by rw [hc6]; decide))
       refine jx9 ?_; exact Rts.res1 (fn := Tryz.f157) rfl (.i rfl (by rw [he]) <| .nil)

theorem ct_fOpenE (f : FdT) (h0 : chkF f ≠ 0) : Ct Tryz.prog 113 [kRd eFd f] (kTup [kDet (.pointer none), kI (chkF f)]) := by
 refine Ct.mk Tryz.func113 rfl Tryz.ntmps113 rfl (fun w J => ?_); refine jx2 ?_; refine jb 1 rfl ?_; refine jx8 ?_; refine jc (ct_fCheckG f) ?_; refine jx9 ?_; refine Tr.cnd rfl ?_ ?_
 ·intro h2
  refine jx9 ?_
  exact Rts.res (fn := Tryz.f113) (ts := [2, 3]) rfl rfl (.k rfl <| .i rfl zi <| .nil)
 ·intro h2
  exact absurd (of_decide_eq_false h2) (fun e => e h0)

set_option maxHeartbeats 2000000 in
theorem ct_fOpenG (f : FdT) (h0 : chkF f = 0) : Ct Tryz.prog 113 [kRd eFd f] (kTup [kPtr eReal (openR f), kI 0]) := by
 obtain ⟨⟨c1, c2, c3, c4, c5⟩, c6, c7, c8, c9⟩ := chkF_0 h0
 have hf : ∀ i, -9223372036854775808 ≤ nth f.1 i ∧ nth f.1 i ≤ 9223372036854775807 := fun i => by have := c2 i; omega
 have hdp : ∀ i, dl (nth f.1 i) ≤ 1 := fun i => dl_le (by have := c2 i; simp [BP]; omega)
 have hdg : Ct Tryz.prog 160 [kPtr eReal (f, f.1, [], f.2.1, f.2.2.1, f.2.2.2)] (kI ((f.1.length : Int) - 1)) := ct_degree (f, f.1, [], f.2.1, f.2.2.1, f.2.2.2) c1
 have htr := fun (k : Nat) (hk : k ≤ 4) => trT_dl (n := f.1.length - 1) hdp zo hk
 refine Ct.mk Tryz.func113 rfl Tryz.ntmps113 rfl (fun w J => ?_); refine jx2 ?_; refine jb 1 rfl ?_; refine jx8 ?_; refine jc (ct_fCheckG f) ?_; refine jx9 ?_; refine Tr.cnd rfl ?_ ?_
 ·intro h2
  exact absurd h0 (of_decide_eq_true h2)
 ·intro h2
  refine jx6 ?_; refine tO (ok_call (fun hp => ct_cloneI _ zo) (.a rfl uu <| .nil)) rfl rfl ?_; refine jx5 ?_; refine Tr.draw 12 mixed (by kernel_rfl) ?_; refine jx2 ?_; refine jd (ct_polyOf f hf zo) ?_; refine jx2 ?_; refine jd (ct_fsmall f.2.1 zo) ?_; refine jx2 ?_; refine jd (ct_fsmall f.2.2.1 zo) ?_; refine jx2 ?_; refine jd (ct_fsmall f.2.2.2 zo) ?_; refine jx1 ?_; refine tO (ok_build (fun hp => .cons rfl rfl rfl <| .cons rfl rfl rfl <| .cons rfl rfl rfl <| .cons rfl rfl rfl <| .cons rfl rfl rfl <| .nil)) rfl rfl ?_; refine jb 32 rfl ?_; refine jx6 ?_
  refine tO (ok_lendP (fun hp => hdg) rfl rfl uu (.nil)) rfl rfl ?_; refine jx7 ?_; refine jc (ct_fsmall ((f.1.length : Int) - 1) zo) ?_; refine TrL.new (ok_bsl eZ 38 (fun hp => .cons rfl <| .nil) rfl rfl rfl rfl) rfl rfl rfl rfl ?_; refine tO (ok_nilO rfl uu) rfl rfl ?_; refine jx10 ?_
  refine Tr.for1 (σ := Nat) [⟨5, true, _, _⟩, ⟨6, true, _, _⟩] [] (fun k => [⟨7, true, [], kI ((k : Int) + 1)⟩]) (fun k => [⟨32, [38], cBlk [kRd (eL eI) f.1, kI f.2.1, kI f.2.2.1, kI f.2.2.2, kRd (eL eZ) f.1, kOsl 38 (k + 1), kB (decide ((ivF f).lo < 0)), kRd (eL eI) (digN ((ivF f).lo).natAbs), kB (decide ((ivF f).hi < 0)), kRd (eL eI) (digN ((ivF f).hi).natAbs), kB (decide ((ivF f).den < 0)), kRd (eL eI) (digN ((ivF f).den).natAbs)]⟩, ⟨38, [], cArr false 160 eZ (trT f.1 (f.1.length - 1) k) (k + 1)⟩]) (fun k => k + 2 ≤ f.1.length) (fun k => k + 2 = f.1.length) (fun k => f.1.length - k) (0) zo (Ent.mk (.i rfl zi <| zk) (.e (by rfl) rfl <| .a (by show [(f.1.length : Int) - 1] = [((f.1.length - 1 : Nat) : Int)]; congr 1; omega) zi <| .nil) rfl) ?_ ?_
  ·intro k hR0
   refine jn ?_
   have hix : ((f.1.length : Int) - 1 - ((k : Int) + 1)).toNat = (f.1.length - 1 - (k + 1)) := by omega
   refine jx8 ?_; refine jq ?_ ?_
   ·intro h9
    refine jx5 ?_; refine Tr.draw 13 mixed (by kernel_rfl) ?_; refine jx1 ?_; refine rO (ok_nilO rfl uu) rfl rfl ?_; refine jx6 ?_
    rw [hix]
    refine jx2 ?_; refine jd (ct_fsmall ((k : Int) + 1) zo) ?_; refine jd (ct_wtimes (nth f.1 (f.1.length - 1 - (k + 1))) ((k : Int) + 1) (by have := hdp (f.1.length - 1 - (k + 1)); omega) (by have := dl_small (F := (k : Int) + 1) zo zo; omega)) ?_; refine RunD.new (ok_alloc 8) rfl rfl rfl rfl ?_; refine jx10 ?_
    refine Tr.for1 (σ := Nat) [⟨5, true, _, _⟩, ⟨6, true, _, _⟩, ⟨7, true, _, _⟩, ⟨8, true, _, _⟩] [⟨32, _, _⟩, ⟨38, _, _⟩] (fun i => [⟨9, true, [], kI ((i : Int) + 1)⟩]) (fun i => [⟨8, [], cBlk [kB (decide ((psT f.1 (trT f.1 (f.1.length - 1) k) (f.1.length - 1) k i) < 0)), kRd (eL eI) (digN ((psT f.1 (trT f.1 (f.1.length - 1) k) (f.1.length - 1) k i)).natAbs)]⟩]) (fun i => i ≤ k) (fun i => i = k) (fun i => k - i) (0) zi (Ent.mk (.i rfl zi <| zk) (.conv (cB_eq (dcell (by unfold psT; simp only [sumTo, Int.add_zero]))) rfl <| zk) rfl) ?_ ?_
    ·intro i hR1
     refine jn ?_
     have hiy : ((f.1.length : Int) - 1 - ((i : Int) + 1)).toNat = (f.1.length - 1 - (i + 1)) := by omega
     have hiz : ((k : Int) + 1 - ((i : Int) + 1)).toNat = k - i := by omega
     have hb1 := hdp (f.1.length - 1 - (i + 1))
     have hb2 := htr k zo (k - i)
     have hb3 := dl_mul (nth f.1 (f.1.length - 1 - (i + 1))) (nth (trT f.1 (f.1.length - 1) k) (k - i))
     have hb4 := psT_dl (n := f.1.length - 1) hdp (htr k zo) (k := k) zo zo (i := i)
     refine jx8 ?_; refine jq ?_ ?_
     ·intro h13
      refine jx4 ?_; refine Tr.draw 20 mixed (by kernel_rfl) ?_; refine jx2 ?_; refine rO (ok_nilO rfl uu) rfl rfl ?_; refine jx6 ?_
      rw [hiy]
      refine jx2 ?_; refine rO (ok_nilO rfl uu) rfl rfl ?_; refine jx6 ?_
      rw [hiz]
      refine rO (ok_ldEA rfl uu rfl rfl rfl rfl) rfl rfl ?_; refine jd (ct_wtimes (nth f.1 (f.1.length - 1 - (i + 1))) (nth (trT f.1 (f.1.length - 1) k) (k - i)) zo zo) ?_; refine jx1 ?_; refine jc (ct_wplus (psT f.1 (trT f.1 (f.1.length - 1) k) (f.1.length - 1) k i) (nth f.1 (f.1.length - 1 - (i + 1)) * nth (trT f.1 (f.1.length - 1) k) (k - i)) zo zo) ?_; refine jx9 ?_
      exact End.lp (i + 1) zi zo (Ent.mk (.i rfl zi <| zk) (.conv (cB_eq (dcell (by rw [psT_succ]))) rfl <| zk) rfl)
     ·intro h13
      replace h13 := Int.not_lt.1 h13
      refine jx4 ?_
      exact End.cut (i) zo (Ent.mk (.i rfl zi <| zk) (zk) rfl)
    ·rintro i hik
     refine je ?_; refine jx1 ?_; refine Tr.drawM (m := 8) mixed (by kernel_rfl) rfl (by kernel_rfl) (by kernel_rfl) (by kernel_rfl) ?_; refine jx2 ?_; refine rO (ok_nilO rfl uu) rfl rfl ?_; refine jx3 ?_; refine jd (ct_wminus (psT f.1 (trT f.1 (f.1.length - 1) k) (f.1.length - 1) k i)) ?_; refine RunD.new (ok_bsl eZ 91 (fun hp => .cons rfl <| .nil) rfl rfl rfl rfl) rfl rfl rfl rfl ?_; refine jx1 ?_; refine TrL.wkC 32 (.k <| .k <| .k <| .k <| .k <| .any <| .k <| .k <| .k <| .k <| .k <| .k <| .nil) rfl ?_; refine jx1 ?_; refine jl ?_; refine tO (ok_nilO rfl uu) rfl rfl ?_; refine jx2 ?_
     refine TrL.finN ?_; refine jx7 ?_
     exact End.lp (k + 1) zi zo (Ent.mk (.i rfl zi <| zk) (.e (by rfl) rfl <| .a (by rw [hik]; rfl) zi <| .nil) rfl)
   ·intro h9
    replace h9 := Int.not_lt.1 h9
    refine jx4 ?_
    exact End.cut (k) zo (Ent.mk (.i rfl zi <| zk) (zk) rfl)
  ·rintro k hkn
   refine je ?_; refine jx3 ?_; refine Tr.frzC 38 32 (by simp only [lenMax]; omega) rfl rfl ?_; refine jn ?_; refine jx5 ?_; refine jq ?_ ?_
   ·intro h17
    have hl3 : 3 ≤ f.1.length := by omega
    refine jx5 ?_
    refine Tr.for1 (σ := Nat) [⟨5, true, _, _⟩] [] (fun h => [⟨97, true, [], kI (h : Int)⟩]) (fun h => [⟨32, [], cBlk [kRd (eL eI) f.1, kI f.2.1, kI f.2.2.1, kI f.2.2.2, kRd (eL eZ) f.1, kRd (eL eZ) (trT f.1 (f.1.length - 1) k), kB (decide ((ivK f.1 (ivF f) h).lo < 0)), kRd (eL eI) (digN ((ivK f.1 (ivF f) h).lo).natAbs), kB (decide ((ivK f.1 (ivF f) h).hi < 0)), kRd (eL eI) (digN ((ivK f.1 (ivF f) h).hi).natAbs), kB (decide ((ivK f.1 (ivF f) h).den < 0)), kRd (eL eI) (digN ((ivK f.1 (ivF f) h).den).natAbs)]⟩]) (fun h => h ≤ 64) (fun h => h = 64) (fun h => 64 - h) (0) zi (Ent.mk (.i rfl zi <| zk) (.e (by rfl) rfl <| .nil) rfl) ?_ ?_
    ·intro h hR2
     refine jn ?_; refine jx6 ?_; refine jq ?_ ?_
     ·intro h19
      refine jx6 ?_; refine TrL.mutP (ct_halve (kRd (eL eI) f.1) (kI f.2.1) (kI f.2.2.1) (kI f.2.2.2) (kRd (eL eZ) (trT f.1 (f.1.length - 1) k)) f.1 (ivK f.1 (ivF f) h) 73000 zo hdp (op_size h0 hl3 zo).1 (op_size h0 hl3 zo).2.1 (op_size h0 hl3 zo).2.2 zo) rfl (.nil) (fun g b cap o h => cBlk_J (g := g) (g' := g1 g.J b cap) rfl h) (fun {J b cap o g} h => cBlk_J (g := g1 J b cap) (g' := ⟨J, g.M⟩) rfl h) rfl ?_; refine jx7 ?_
      exact End.lp (h + 1) zi zo (Ent.mk (.i rfl zi <| zk) (.e (by rfl) rfl <| .nil) rfl)
     ·intro h19
      replace h19 := Int.not_lt.1 h19
      refine jx4 ?_
      exact End.cut (h) zo (Ent.mk (.i rfl zi <| zk) (zk) rfl)
    ·rintro _ rfl
     refine je ?_; refine jx2 ?_; refine Tr.frzB 32 [5] eReal ⟨rfl, trivial⟩ rfl ?_; refine jn ?_; refine jx7 ?_; exact Rts.res (fn := Tryz.f113) (ts := [2, 3]) rfl rfl (.p rfl (by unfold openR opI; rw [if_neg zo, show k = f.1.length - 2 by omega]) <| .i rfl (by rfl) <| .nil)
   ·intro h17
    replace h17 := Int.not_lt.1 h17
    have hl2 : f.1.length = 2 := by omega
    refine jx3 ?_; refine Tr.frzB 32 [5] eReal ⟨rfl, trivial⟩ rfl ?_; refine jn ?_; refine jx7 ?_; exact Rts.res (fn := Tryz.f113) (ts := [2, 3]) rfl rfl (.p rfl (by unfold openR opI; rw [if_pos hl2, show k = f.1.length - 2 by omega]) <| .i rfl (by rfl) <| .nil)

end Go.Fl

/- Numbers as the reference of chapter 1 reckons them: the same as the program's. No program in sight. -/
namespace Go.Fl
open Go
def linL (a b : Int) (xs ys : List Int) : List Int := tab xs.length fun i => nth xs i * a + nth ys i * b
theorem linL_len {a b : Int} {xs ys : List Int} : (linL a b xs ys).length = xs.length := tab_len
theorem linL_nth {a b : Int} {xs ys : List Int} (h : xs.length = ys.length) (i : Nat) : nth (linL a b xs ys) i = nth xs i * a + nth ys i * b := by
 by_cases hi : i < xs.length
 ·exact nth_tab hi
 ·rw [nth_out (by rw [linL_len]; omega), nth_out (xs := xs) zo, nth_out (xs := ys) zo]
  show (0 : Int) = 0 * a + 0 * b
  rw [Int.zero_mul, Int.zero_mul]; rfl
theorem app0_nth {xs : List Int} {k i : Nat} : nth (xs ++ List.replicate k 0) i = nth xs i := by
 rw [nth_app0]
 split
 ·rfl
 ·rw [nth_out zo]; rfl
theorem linL_pad {a b : Int} {xs ys : List Int} {k : Nat} (h : xs.length = ys.length) : linL a b xs ys ++ List.replicate k 0 = linL a b (xs ++ List.replicate k 0) (ys ++ List.replicate k 0) := by
 refine ext_nth (by simp [linL_len]) fun i _ => ?_
 rw [app0_nth, linL_nth h, linL_nth (by simp [h]), app0_nth, app0_nth]
theorem red1_lin {p : List Int} {n : Nat} {a b : Int} {xs ys : List Int} (h : xs.length = ys.length) : red1 p n (linL a b xs ys) = linL a b (red1 p n xs) (red1 p n ys) := by
 refine ext_nth (by rw [red1_len, linL_len, linL_len, red1_len]) fun i hi => ?_
 rw [red1_len, linL_len] at hi
 rw [linL_nth (by rw [red1_len, red1_len, h])]
 unfold red1
 rw [linL_len, nth_tab hi, nth_tab hi, nth_tab zo, ← h, linL_nth h, linL_nth h]
 split
 ·generalize nth p _ = q
  generalize nth xs i = x1
  generalize nth ys i = y1
  generalize nth xs (xs.length - 1) = x2
  generalize nth ys (xs.length - 1) = y2
  have e1 : (x2 * a + y2 * b) * q = x2 * q * a + y2 * q * b := by rw [Int.add_mul, Int.mul_right_comm, Int.mul_right_comm y2]
  rw [e1, Int.sub_mul, Int.sub_mul]; omega
 ·rw [Int.sub_zero, Int.sub_zero, Int.sub_zero]
theorem redF_lin {p : List Int} {n : Nat} {a b : Int} : ∀ {f : Nat} {xs ys : List Int}, xs.length = ys.length → redF p n f (linL a b xs ys) = linL a b (redF p n f xs) (redF p n f ys)
 | 0, xs, ys, h => by rw [redF, redF, redF, linL_len, ← h, linL_pad h]
 | f + 1, xs, ys, h => by
  rw [redF, redF, redF, linL_len, ← h]
  split
  ·rw [linL_pad h]
  ·rw [red1_lin h, redF_lin (by rw [red1_len, red1_len, h])]
theorem red_lin {p : List Int} {a b : Int} {xs ys : List Int} (h : xs.length = ys.length) : red p (linL a b xs ys) = linL a b (red p xs) (red p ys) := by
 unfold red
 rw [linL_len, ← h]
 exact redF_lin h
theorem red_snoc0 {p xs : List Int} : red p (xs ++ [0]) = red p xs := by
 by_cases hl : (xs ++ [0]).length ≤ p.length - 1
 ·rw [red_short rfl hl]
  have h2 : xs.length ≤ p.length - 1 := by rw [List.length_append] at hl; omega
  rw [red_short rfl h2, List.append_assoc]
  congr 1
  rw [List.length_append, List.length_singleton] at hl ⊢
  rw [show p.length - 1 - xs.length = p.length - 1 - (xs.length + 1) + 1 by omega, List.replicate_succ]; rfl
 ·rw [← red_red1 rfl zo]
  congr 1
  refine ext_nth (by rw [red1_len, List.length_append]; simp) fun i hi => ?_
  rw [red1_len, List.length_append, List.length_singleton, Nat.add_sub_cancel] at hi
  unfold red1
  rw [List.length_append, List.length_singleton, Nat.add_sub_cancel, nth_tab hi]
  have e1 : nth (xs ++ [0]) xs.length = 0 := by simp [nth]
  have e2 : nth (xs ++ [0]) i = nth xs i := by simp [nth, List.getD, List.getElem?_append_left hi]
  rw [e1, e2]
  split
  ·rw [Int.zero_mul, Int.sub_zero]
  ·rw [Int.sub_zero]
theorem red_pad0 {p xs : List Int} : ∀ {k : Nat}, red p (xs ++ List.replicate k 0) = red p xs
 | 0 => by rw [List.replicate_zero, List.append_nil]
 | k + 1 => by rw [List.replicate_succ', ← List.append_assoc, red_snoc0, red_pad0]
theorem pad_lin {p xs ys : List Int} {a b : Int} {m : Nat} (h1 : xs.length ≤ m) (h2 : ys.length ≤ m) : pad p (tab m fun i => nth xs i * a + nth ys i * b) = tab 4 fun i => nth (pad p xs) i * a + nth (pad p ys) i * b := by
 have e : (tab m fun i => nth xs i * a + nth ys i * b) = linL a b (xs ++ List.replicate (m - xs.length) 0) (ys ++ List.replicate (m - ys.length) 0) := by
  unfold linL
  rw [List.length_append, List.length_replicate, show xs.length + (m - xs.length) = m by omega]
  exact tab_congr fun i _ => by rw [app0_nth, app0_nth]
 rw [e]
 unfold pad
 rw [red_lin (by simp; omega), red_pad0, red_pad0]
 refine tab_congr fun i hi => ?_
 rw [linL_nth (by rw [red_len, red_len]), nth_tab hi, nth_tab hi]
theorem pad_neg {p xs : List Int} : pad p (xs.map fun z => -z) = (pad p xs).map fun z => -z := by
 have e : (xs.map fun z => -z) = tab xs.length fun i => nth xs i * (-1) + nth xs i * 0 := by
  conv => lhs; rw [neg_tab rfl]
  exact tab_congr fun i _ => by omega
 rw [e, pad_lin (Nat.le_refl _) (Nat.le_refl _)]
 conv => rhs; rw [neg_tab pad_len]
 exact tab_congr fun i _ => by omega
theorem adV_low {cs cs' : List Int} {a b : Int} (ha : a ≠ 0) (hb : b ≠ 0) : adV (loN cs a) (loN cs' b) = loN (tab 4 fun i => nth cs i * b + nth cs' i * a) (a * b) := by
 have p1 := low_pos (cs := cs) ha
 have p2 := low_pos (cs := cs') hb
 have p3 := Int.mul_pos p1 p2
 refine low_eq zo (Int.mul_ne_zero ha hb) ?_
 rw [tab_mul, tab_mul]
 refine tab_congr fun i _ => ?_
 have e1 := low_cross (cs := cs) ha i
 have e2 := low_cross (cs := cs') hb i
 generalize nth (loN cs a).1 i = x at *
 generalize nth (loN cs' b).1 i = y at *
 generalize (loN cs a).2 = c at *
 generalize (loN cs' b).2 = d at *
 generalize nth cs i = u at *
 generalize nth cs' i = v at *
 calc (x * d + y * c) * (a * b) = x * a * (d * b) + y * b * (c * a) := by rw [Int.add_mul]; congr 1 <;> ac_rfl
  _ = u * c * (d * b) + v * d * (c * a) := by rw [e1, e2]
  _ = (u * b + v * a) * (c * d) := by rw [Int.add_mul]; congr 1 <;> ac_rfl
abbrev NumL := List (List Int) × List Int
def valC (x : NumL) : List Int := x.1.map val
theorem rAdd_eq {p : List Int} {x y : NumL} {m : Nat} (h1 : x.1.length ≤ m) (h2 : y.1.length ≤ m) : loN (pad p (tab m fun i => nth (valC x) i * denN y.2 + nth (valC y) i * denN x.2)) (denN x.2 * denN y.2) = adV (takeN p x) (takeN p y) := by
 unfold takeN
 rw [adV_low denN_ne denN_ne, pad_lin (by unfold valC; rw [List.length_map]; exact h1) (by unfold valC; rw [List.length_map]; exact h2)]
 rfl
theorem rNeg_eq {p : List Int} {x : NumL} : loN (pad p ((valC x).map fun z => -z)) (denN x.2) = negV (takeN p x) := by
 rw [pad_neg, low_negc]
 rfl
def cnvL (xs ys : List Int) : List Int := tab (xs.length + ys.length - 1) fun i => sumTo (fun k => nth xs k * nth ys (i - k)) (i + 1)
theorem cnvL_neg {xs : List Int} : cnvL xs [-1] = xs.map fun z => -z := by
 unfold cnvL
 rw [show xs.length + [(-1 : Int)].length - 1 = xs.length by simp]
 conv => rhs; rw [neg_tab rfl]
 refine tab_congr fun i hi => ?_
 rw [sumTo_one (j := i) zo fun k hk hne => ?_]
 ·simp only [Nat.sub_self]
  show nth xs i * -1 = _
  omega
 ·have : nth ([-1] : List Int) (i - k) = 0 := nth_out (by simp; omega)
  rw [this, Int.mul_zero]
theorem tab_app {cs : List Int} (h : cs.length ≤ 4) : tab 4 (nth cs) = cs ++ List.replicate (4 - cs.length) 0 := by
 refine ext_nth (by rw [tab_len]; simp; omega) fun i hi => ?_
 rw [tab_len] at hi
 rw [nth_tab hi, app0_nth]
theorem give_low4 {cs : List Int} {d : Int} (h : cs.length ≤ 4) : giveN (loN cs d) = giveN (loN (tab 4 (nth cs)) d) := by
 rw [tab_app h, low_pad]
 unfold giveN
 simp only [trim_pad]
theorem give_red {p xs : List Int} {d : Int} (h5 : p.length ≤ 5) : giveN (loN (red p xs) d) = giveN (loN (pad p xs) d) := give_low4 (by rw [red_len]; omega)
def rd1L (p : List Int) (n : Nat) (xs : List (List Int)) : List (List Int) := tab (xs.length - 1) fun j => if xs.length - 1 - n ≤ j then lstZ (val (nth xs j) - val (nth xs (xs.length - 1)) * nth p (j - (xs.length - 1 - n))) else nth xs j
theorem rd1L_len {p : List Int} {n : Nat} {xs : List (List Int)} : (rd1L p n xs).length = xs.length - 1 := tab_len
def rdFL (p : List Int) (n : Nat) : Nat → List (List Int) → List (List Int)
 | 0, xs => xs ++ List.replicate (n - xs.length) []
 | f + 1, xs => if xs.length ≤ n then xs ++ List.replicate (n - xs.length) [] else rdFL p n f (rd1L p n xs)
def rdcL (p : List Int) (xs : List (List Int)) : List (List Int) := rdFL p (p.length - 1) (xs.length - (p.length - 1)) xs
theorem rd1L_val {p : List Int} {n : Nat} {xs : List (List Int)} : (rd1L p n xs).map val = red1 p n (xs.map val) := by
 refine ext_nth (by rw [List.length_map, rd1L_len, red1_len, List.length_map]) fun i hi => ?_
 rw [List.length_map, rd1L_len] at hi
 rw [nth_mapv]
 unfold rd1L red1
 rw [List.length_map, nth_tab hi, nth_tab hi, nth_mapv, nth_mapv]
 split
 ·rw [lst_val]
 ·rw [Int.sub_zero]
theorem rdFL_val {p : List Int} {n : Nat} : ∀ {f : Nat} {xs : List (List Int)}, (rdFL p n f xs).map val = redF p n f (xs.map val)
 | 0, xs => by rw [rdFL, redF, List.map_append, List.map_replicate, List.length_map]; rfl
 | f + 1, xs => by
  rw [rdFL, redF, List.length_map]
  split
  ·rw [List.map_append, List.map_replicate]; rfl
  ·rw [rdFL_val, rd1L_val]
theorem rdcL_val {p : List Int} {xs : List (List Int)} : (rdcL p xs).map val = red p (xs.map val) := by unfold rdcL red; rw [rdFL_val, List.length_map]
theorem rdcL_len {p : List Int} {xs : List (List Int)} : (rdcL p xs).length = p.length - 1 := by
 have := congrArg List.length (rdcL_val (p := p) (xs := xs))
 rw [List.length_map, red_len] at this
 exact this
def LOk (B : Nat) (xs : List (List Int)) : Prop := ∀ i, InI (nth xs i) ∧ (nth xs i).length ≤ B ∧ dl (val (nth xs i)) ≤ B
theorem inI_nil : InI [] := fun _ h => absurd h (Nat.not_lt_zero _)
theorem LOk.app {B k : Nat} {xs : List (List Int)} (h : LOk B xs) : LOk B (xs ++ List.replicate k []) := fun i => by
 by_cases hi : i < xs.length
 ·have e : nth (xs ++ List.replicate k []) i = nth xs i := by simp [nth, List.getD, List.getElem?_append_left hi]
  rw [e]; exact h i
 ·have e : nth (xs ++ List.replicate k []) i = [] := by
   simp only [nth, List.getD, List.getElem?_append_right (Nat.le_of_not_lt hi), List.getElem?_replicate]
   split <;> rfl
  rw [e]
  exact ⟨inI_nil, Nat.zero_le _, by rw [val_nil, dl_zero.2 rfl]; omega⟩
theorem LOk.mono {B C : Nat} {xs : List (List Int)} (h : LOk B xs) (hBC : B ≤ C) : LOk C xs := fun i => ⟨(h i).1, Nat.le_trans (h i).2.1 hBC, Nat.le_trans (h i).2.2 hBC⟩
theorem lst_ok {z : Int} {B : Nat} (h : dl z ≤ B) : InI (lstZ z) ∧ (lstZ z).length ≤ B ∧ dl (val (lstZ z)) ≤ B := ⟨lst_in _, by rw [lst_len]; exact h, by rw [lst_val]; exact h⟩
theorem rdFL_ok {p : List Int} {n : Nat} (hp : ∀ i, dl (nth p i) ≤ 1) : ∀ {f B : Nat} {xs : List (List Int)}, LOk B xs → LOk (B + 2 * f) (rdFL p n f xs)
 | 0, B, xs, h => by rw [rdFL]; exact h.app
 | f + 1, B, xs, h => by
  rw [rdFL]
  split
  ·exact h.app.mono zo
  ·have h1 : LOk (B + 2) (rd1L p n xs) := fun j => by
    by_cases hj : j < xs.length - 1
    ·unfold rd1L
     rw [nth_tab hj]
     split
     ·refine lst_ok ?_
      rw [Int.sub_eq_add_neg]
      have := dl_step (h j).2.2 (h (xs.length - 1)).2.2 (hp (j - (xs.length - 1 - n)))
      omega
     ·have := h j; exact ⟨this.1, by omega, by omega⟩
    ·rw [nth_out (by rw [rd1L_len]; omega)]
     exact ⟨inI_nil, Nat.zero_le _, by show dl (val []) ≤ _; rw [val_nil, dl_zero.2 rfl]; omega⟩
   exact (rdFL_ok hp h1).mono zo
theorem rdcL_ok {p : List Int} {xs : List (List Int)} {B : Nat} (hp : ∀ i, dl (nth p i) ≤ 1) (h : LOk B xs) : LOk (B + 2 * xs.length) (rdcL p xs) := (rdFL_ok hp h).mono zo
theorem num_LOk {x : NumL} {k : Nat} (h : NumOk k x) : LOk (k + 3) x.1 := fun i => by
 have := dl_val (h.c i).1
 have := (h.c i).2
 exact ⟨(h.c i).1, by omega, by omega⟩
theorem take_give_red {p : List Int} {c : List (List Int)} {d : Int} (h5 : p.length ≤ 5) : giveN (loN ((rdcL p c).map val) d) = giveN (loN (pad p (c.map val)) d) := by rw [rdcL_val, give_red h5]
theorem enc_pad {I : Iv} (hI : 0 < I.den) : ∀ {xs : List Int}, enc I (xs ++ [0]) = (I.den * (enc I xs).1, I.den * (enc I xs).2.1, I.den * (enc I xs).2.2)
 | [] => by simp [enc, min4, max4]
 | c :: xs => by
  rw [List.cons_append, enc, enc_pad hI, enc]
  simp only [Int.mul_assoc, min4_mul (Int.le_of_lt hI), max4_mul (Int.le_of_lt hI)]
  refine Prod.ext ?_ (Prod.ext ?_ rfl)
  ·simp only; rw [Int.mul_add, ← Int.mul_assoc c, ← Int.mul_assoc I.den c, Int.mul_comm I.den c]
  ·simp only; rw [Int.mul_add, ← Int.mul_assoc c, ← Int.mul_assoc I.den c, Int.mul_comm I.den c]
theorem enc_sg {I : Iv} (hI : 0 < I.den) {xs : List Int} : ∀ {k : Nat}, (0 < (enc I (xs ++ List.replicate k 0)).1 ↔ 0 < (enc I xs).1) ∧ ((enc I (xs ++ List.replicate k 0)).2.1 < 0 ↔ (enc I xs).2.1 < 0)
 | 0 => by simp
 | k + 1 => by
  obtain ⟨h1, h2⟩ := enc_sg hI (xs := xs) (k := k)
  rw [List.replicate_succ', ← List.append_assoc, enc_pad hI, ← h1, ← h2]
  constructor
  ·exact ⟨fun h => Classical.byContradiction fun hn => by have := Int.mul_nonneg (Int.le_of_lt hI) (show 0 ≤ -(enc I (xs ++ List.replicate k 0)).1 by omega); rw [Int.mul_neg] at this; simp only at h; omega, fun h => Int.mul_pos hI h⟩
  ·exact ⟨fun h => Classical.byContradiction fun hn => by have := Int.mul_nonneg (Int.le_of_lt hI) (show 0 ≤ (enc I (xs ++ List.replicate k 0)).2.1 by omega); simp only at h; omega, fun h => Int.mul_neg_of_pos_of_neg hI h⟩
theorem take_trim {v : List Int} {n : Nat} (h4 : v.length = 4) (hn : n ≤ 4) (hz : ∀ i, n ≤ i → nth v i = 0) : v.take n = trimL v ++ List.replicate (n - (trimL v).length) 0 := by
 have h1 := trim_len_le hz
 refine ext_nth (by simp; omega) fun i hi => ?_
 rw [List.length_take] at hi
 rw [nth_take' zo, app0_nth, nth_trim]
theorem halve_ref {p : List Int} {I : Iv} (h1 : sgn (hvP I.lo I.den p).1 ≠ 0) (h2 : sgn (hvP (I.lo + I.hi) (I.den * 2) p).1 ≠ 0) : halveI p I = if sgn (hvP I.lo I.den p).1 ≠ sgn (hvP (I.lo + I.hi) (I.den * 2) p).1 then ⟨I.lo * 2, I.lo + I.hi, I.den * 2⟩ else ⟨I.lo + I.hi, I.hi * 2, I.den * 2⟩ := by
 unfold halveI
 rw [show I.den + I.den = I.den * 2 by omega, show I.lo + I.lo = I.lo * 2 by omega, show I.hi + I.hi = I.hi * 2 by omega]
 have b1 := sgn_cases (hvP I.lo I.den p).1
 have b2 := sgn_cases (hvP (I.lo + I.hi) (I.den * 2) p).1
 generalize sgn (hvP I.lo I.den p).1 = s at *
 generalize sgn (hvP (I.lo + I.hi) (I.den * 2) p).1 = t at *
 have a1 : s = -1 ∨ s = 1 := by omega
 have a2 : t = -1 ∨ t = 1 := by omega
 rcases a1 with rfl | rfl <;> rcases a2 with rfl | rfl <;> rfl
def plL (f : Int × Int × Int) (I : Iv) (k : Nat) : List Int × List Int × List Int := if k = 0 then ([f.1], [f.2.1], [f.2.2]) else (lstZ I.lo, lstZ I.hi, lstZ I.den)
end Go.Fl

/- Contracts: fields of the reference. -/
namespace Go.Fl
open Go Go.Proofs
open TrL renaming op → tO
open RunD renaming op → rO
set_option maxRecDepth 100000

theorem pol_open {f : FdT} (h : chkF f = 0) : PolOk f.1 := by
 obtain ⟨⟨c1, c2, _⟩, _⟩ := chkF_0 h
 exact ⟨c1, fun i => dl_le (by have := c2 i; simp [BP]; omega)⟩
theorem sgV_rat {p : List Int} {I : Iv} {v : NvT} (h : ratB v.1 = true) : sgV p I v = cmpZ (nth v.1 0) 0 := if_pos h
theorem opI_big {f : FdT} (h : ¬ f.1.length = 2) : ivK f.1 (ivF f) 64 = opI f := by unfold opI; rw [if_neg h]
theorem openR_iv {f : FdT} : (⟨(openR f).2.2.2.1, (openR f).2.2.2.2.1, (openR f).2.2.2.2.2⟩ : Iv) = opI f := by simp only [openR]
def NoRt (p : List Int) : Prop := ¬ ∃ x, evH p x = 0
def QYes (p : List Int) (b : Int) : Prop := (b ≠ 0 ∧ b ∣ nth p 0) ∧ ∃ a, -2002 ≤ a ∧ a ≤ 2002 ∧ RefQ p b a
theorem noRt_of {p : List Int} (hl : 1 ≤ p.length) (hp : (nth p 0).natAbs ≤ 1000) (h : ∀ j : Nat, j < 2003 → evH p ((j : Int) - 1001) ≠ 0) : NoRt p := fun e => by
 obtain ⟨x, h1, h2, h3⟩ := (red_ref_root hl hp).1 e
 have := h (x + 1001).toNat zo
 rw [show (((x + 1001).toNat : Nat) : Int) - 1001 = x by omega] at this
 exact this h3
theorem noRt_0 {p : List Int} (hl : 1 ≤ p.length) (h : NoRt p) : nth p 0 ≠ 0 := fun e => h ⟨0, by rw [root_zero hl, e]⟩
theorem noRed_of {p : List Int} (_ : 3 ≤ p.length) (hs : ∀ i, (nth p i).natAbs ≤ 1000) (hn : NoRt p) (h : p.length = 5 → ∀ j : Nat, j < 2001 → ¬ QYes p ((j : Int) - 1000)) : ¬ RedB p := fun ⟨_, e⟩ => by
 rcases e with e | ⟨h5, e⟩
 ·exact hn e
 ·obtain ⟨b, h1, h2, h3, h4, h6⟩ := (red_ref_quad (noRt_0 zo hn) (hs 0) (hs 2) (hs 3)).1 e
  have := h h5 (b + 1000).toNat zo
  rw [show (((b + 1000).toNat : Nat) : Int) - 1000 = b by omega] at this
  exact this ⟨⟨h3, h4⟩, h6⟩
theorem red_of {p : List Int} (h5 : p.length = 5) (hs : ∀ i, (nth p i).natAbs ≤ 1000) (hn : NoRt p) {b : Int} (hb : -1000 ≤ b ∧ b ≤ 1000) (h : QYes p b) : RedB p :=
 ⟨by omega, .inr ⟨h5, (red_ref_quad (noRt_0 zo hn) (hs 0) (hs 2) (hs 3)).2 ⟨b, hb.1, hb.2, h.1.1, h.1.2, h.2⟩⟩⟩
theorem qNo_of {p : List Int} {b : Int} (h : ∀ j : Nat, j < 4005 → ¬ RefQ p b ((j : Int) - 2002)) : ¬ QYes p b := fun ⟨_, a, h1, h2, h3⟩ => by
 have := h (a + 2002).toNat zo
 rw [show (((a + 2002).toNat : Nat) : Int) - 2002 = a by omega] at this
 exact this h3
theorem sgnC_rat {r : RlT} {I : Iv} (hpo : PolOk r.2.1) (h2 : r.2.1.length = 2) : SgnC r (sgV r.2.1 I) := by
 have hr : ∀ x : NumT, ratB (takeN r.2.1 x).1 = true := fun x => ratB_pad h2
 refine ⟨fun x hx => ?_, fun x y hx hy => ?_⟩
 ·rw [sgV_rat (hr x)]
  exact ct_fSignQ r x 250 hpo h2 hx zo
 ·have e : sgV r.2.1 I (subV (takeN r.2.1 x) (takeN r.2.1 y)) = cmpZ (nth (subV (takeN r.2.1 x) (takeN r.2.1 y)).1 0) 0 := sgV_rat (ratB_add (hr x) (ratB_neg (hr y)))
  rw [e]
  exact ct_fCmpQ r x y 250 hpo hx hy zo h2
theorem sgnC_big {r : RlT} {I : Iv} (hf : FldOk r.2.1 I) (hI : ivK r.2.1 I 64 = ⟨r.2.2.2.1, r.2.2.2.2.1, r.2.2.2.2.2⟩) : SgnC r (sgV r.2.1 I) :=
 ⟨fun x hx => ct_fSignF r I x hf hI hx, fun x y hx hy => ct_fCmpF r I x y hf hI hx hy⟩
theorem sgnC_open {f : FdT} (h : chkF f = 0) : SgnC (openR f) (sgV f.1 (ivF f)) := by
 have e : (openR f).2.1 = f.1 := rfl
 have hpo := pol_open h
 rw [← e] at hpo ⊢
 by_cases h2 : f.1.length = 2
 ·rw [← e] at h2
  exact sgnC_rat hpo h2
 ·obtain ⟨⟨c1, _⟩, _⟩ := chkF_0 h
  have hf := fld_ok h zo
  have hI := opI_big h2
  rw [← openR_iv] at hI
  generalize openR f = r at *
  rw [← e] at hf hI
  exact sgnC_big hf hI
theorem ct_rvalue (p : List Int) (x : Int) (h5 : p.length ≤ 5) (hs : ∀ i, (nth p i).natAbs ≤ 1000) (hx : x.natAbs ≤ 1001) : Ct Tryz.prog 171 [kRd (eL eI) p, kI x] (kI (evH p x)) := by
 refine Ct.mk Tryz.func171 rfl Tryz.ntmps171 rfl (fun w J => ?_); refine jx19 ?_
 refine Tr.for1 (σ := Nat) [⟨0, true, _, _⟩, ⟨1, true, _, _⟩] [] (fun k => [⟨5, true, [], kI (evK p x k)⟩, ⟨6, true, [], kI ((p.length : Int) - 1 - k)⟩]) (fun k => []) (fun k => k ≤ p.length) (fun k => k = p.length) (fun k => p.length - k) (0) zi (Ent.mk (.i rfl (by rw [evK_zero]) <| .i rfl zi <| zk) (.nil) rfl) ?_ ?_
 ·intro k hR0
  refine jn ?_
  have hb1 := fun (h : k < p.length) => evK_i hs hx h5 (k := k + 1) zo
  have hb2 := evK_i hs hx h5 (k := k) zo
  have hb3 := hs (p.length - 1 - k)
  have hix := fun (h : k < p.length) => (show ((p.length : Int) - 1 - (k : Int)).toNat = p.length - 1 - k by omega)
  refine jx7 ?_; refine jq ?_ ?_
  ·intro h3
   refine jx5 ?_
   have hixk := hix zo
   have hbk := hb1 zo
   rw [evK_step zo] at hbk
   refine jx6 ?_
   rw [hixk]
   refine jx11 ?_
   exact End.lp (k + 1) zi zo (Ent.mk (.i rfl (by rw [evK_step zo]) <| .i rfl zi <| zk) (.nil) rfl)
  ·intro h3
   replace h3 := Int.not_le.1 h3
   refine jx4 ?_
   exact End.cut (k) zo (Ent.mk (.i rfl zi <| .i rfl zi <| zk) (.nil) rfl)
 ·rintro k hkn
  refine je ?_; refine jx8 ?_; exact Rts.res1 (fn := Tryz.f171) rfl (.i rfl (by rw [hkn, evK_end]) <| .nil)

theorem ct_rReducible (p : List Int) (h2' : 2 ≤ p.length) (h5' : p.length ≤ 5) (hs : ∀ i, (nth p i).natAbs ≤ 1000) : Ct Tryz.prog 126 [kRd (eL eI) p] (kB (redB p)) := by
 have hs0 := hs 0
 have hs1 := hs 1
 have hs2 := hs 2
 have hs3 := hs 3
 refine Ct.mk Tryz.func126 rfl Tryz.ntmps126 rfl (fun w J => ?_); refine jx20 ?_; refine jq ?_ ?_
 ·intro h2
  have hr := redB_f (p := p) (fun e => e.1 zo)
  refine jx7 ?_; exact Rts.res1 (fn := Tryz.f126) rfl (.b rfl (by rw [hr]) <| .nil)
 ·intro h2
  have hl3 : 3 ≤ p.length := by omega
  refine jx8 ?_
  refine Tr.for1 (σ := Nat) [⟨0, true, _, _⟩, ⟨3, true, _, _⟩] [] (fun k => [⟨4, true, [], kI ((k : Int) - 1001)⟩]) (fun k => []) (fun k => k ≤ 2003 ∧ ∀ j : Nat, j < k → evH p ((j : Int) - 1001) ≠ 0) (fun k => NoRt p) (fun k => 2003 - k) (0) ⟨by omega, fun j h => absurd h (Nat.not_lt_zero _)⟩ (Ent.mk (.i rfl zi <| zk) (.nil) rfl) ?_ ?_
  ·rintro k ⟨hk, hR⟩
   refine jn ?_; refine jx7 ?_; refine jq ?_ ?_
   ·intro h5
    refine jx8 ?_; refine jc (ct_rvalue p ((k : Int) - 1001) h5' hs zo) ?_; refine jx3 ?_; refine jq ?_ ?_
    ·intro h7
     have hr := redB_t (p := p) ⟨by omega, .inl ⟨(k : Int) - 1001, h7⟩⟩
     refine jx12 ?_; exact Rts.res1 (fn := Tryz.f126) rfl (.b rfl (by rw [hr]) <| .nil)
    ·intro h7
     have hno : evH p ((k : Int) - 1001) ≠ 0 := h7
     refine jx8 ?_
     exact End.lp (k + 1) ⟨by omega, fun j hj => by by_cases e : j = k; (subst e; exact hno); exact hR j zo⟩ zo (Ent.mk (.i rfl zi <| zk) (.nil) rfl)
   ·intro h5
    replace h5 := Int.not_le.1 h5
    refine jx4 ?_
    exact End.cut (k) (noRt_of zo hs0 (fun j hj => hR j zo)) (Ent.mk (.i rfl zi <| zk) (.nil) rfl)
  ·intro k hnr
   refine je ?_
   have hp0 : nth p 0 ≠ 0 := noRt_0 zo hnr
   refine jx7 ?_
   refine Tr.for1 (σ := Nat) [⟨0, true, _, _⟩, ⟨3, true, _, _⟩] [] (fun k => [⟨5, true, [], kI ((k : Int) - 1000)⟩]) (fun k => []) (fun k => k ≤ 2001 ∧ (p.length = 5 → ∀ j : Nat, j < k → ¬ QYes p ((j : Int) - 1000))) (fun k => redB p = false) (fun k => 2001 - k) (0) ⟨by omega, fun _ j h => absurd h (Nat.not_lt_zero _)⟩ (Ent.mk (.i rfl zi <| zk) (.nil) rfl) ?_ ?_
   ·rintro k ⟨hk, hR⟩
    refine jn ?_; refine jx11 ?_; refine Tr.cnd rfl ?_ ?_
    ·intro h10
     have hk5 : k < 2001 ∧ p.length = 5 := by simp at h10; omega
     refine jx11 ?_; refine TrL.gd rfl rfl rfl (ok_idxN (i := 0) rfl id rfl uu rfl (fun _ => zo)) rfl rfl ?_; refine jx2 ?_; refine TrL.gd rfl rfl rfl (ok_rem rfl id rfl id (fun hp => by simp at hp; omega)) rfl rfl ?_; refine jx4 ?_; refine Tr.cnd rfl ?_ ?_
     ·intro h12
      have hnb : ¬ QYes p ((k : Int) - 1000) := fun e => by simp [Int.tmod_eq_zero_of_dvd e.1.2] at h12; exact e.1.1 zo
      refine jx9 ?_
      exact End.lp (k + 1) ⟨by omega, fun h5 j hj => by by_cases e : j = k; (subst e; exact hnb); exact hR h5 j zo⟩ zo (Ent.mk (.i rfl zi <| zk) (.nil) rfl)
     ·intro h12
      have hb0 : ((k : Int) - 1000) ≠ 0 ∧ ((k : Int) - 1000) ∣ nth p 0 := by simp at h12; exact ⟨by omega, Int.dvd_of_tmod_eq_zero h12.2⟩
      refine jx7 ?_
      refine Tr.for1 (σ := Nat) [⟨0, true, _, _⟩, ⟨3, true, _, _⟩, ⟨5, true, _, _⟩] [] (fun i => [⟨6, true, [], kI ((i : Int) - 2002)⟩]) (fun i => []) (fun i => i ≤ 4005 ∧ ∀ j : Nat, j < i → ¬ RefQ p ((k : Int) - 1000) ((j : Int) - 2002)) (fun i => ¬ QYes p ((k : Int) - 1000)) (fun i => 4005 - i) (0) ⟨by omega, fun j h => absurd h (Nat.not_lt_zero _)⟩ (Ent.mk (.i rfl zi <| zk) (.nil) rfl) ?_ ?_
      ·rintro i ⟨hi, hRi⟩
       refine jn ?_
       have m1 : (((i : Int) - 2002) * (nth p 3 - ((i : Int) - 2002))).natAbs ≤ 2003 * 3003 := mul_ab zo zo
       have m2 : (((k : Int) - 1000) * (nth p 2 - ((k : Int) - 1000) - ((i : Int) - 2002) * (nth p 3 - ((i : Int) - 2002)))).natAbs ≤ 1001 * 6020000 := mul_ab zo zo
       have m3 : (((i : Int) - 2002) * (nth p 2 - ((k : Int) - 1000) - ((i : Int) - 2002) * (nth p 3 - ((i : Int) - 2002)))).natAbs ≤ 2003 * 6020000 := mul_ab zo zo
       have m4 : (((k : Int) - 1000) * (nth p 3 - ((i : Int) - 2002))).natAbs ≤ 1001 * 3003 := mul_ab zo zo
       refine jx7 ?_; refine jq ?_ ?_
       ·intro h14
        refine jx7 ?_; refine tO (ok_idxN (i := 3) rfl uu rfl uu rfl (fun _ => zo)) rfl rfl ?_; refine jx9 ?_; refine tO (ok_idxN (i := 2) rfl uu rfl uu rfl (fun _ => zo)) rfl rfl ?_; refine jx16 ?_; refine tO (ok_idxN (i := 0) rfl uu rfl uu rfl (fun _ => zo)) rfl rfl ?_; refine jx5 ?_; refine TrL.gd rfl rfl rfl (ok_mul rfl id rfl id (fun hp => by simp at hp; omega)) rfl rfl ?_; refine jx2 ?_; refine TrL.gd rfl rfl rfl (ok_mul rfl id rfl id (fun hp => by simp at hp; omega)) rfl rfl ?_; refine TrL.gd rfl rfl rfl (ok_add rfl id rfl id (fun hp => by simp at hp; omega)) rfl rfl ?_
        refine jx1 ?_; refine TrL.gd rfl rfl rfl (ok_idxN (i := 1) rfl id rfl uu rfl (fun _ => zo)) rfl rfl ?_; refine jx5 ?_; refine Tr.cnd rfl ?_ ?_
        ·intro h18
         have hq : RefQ p ((k : Int) - 1000) ((i : Int) - 2002) := by simp at h18; exact h18
         have hr : redB p = true := redB_t (red_of hk5.2 hs hnr zo ⟨hb0, ((i : Int) - 2002), by omega, by omega, hq⟩)
         refine jx17 ?_; exact Rts.res1 (fn := Tryz.f126) rfl (.b rfl (by rw [hr]) <| .nil)
        ·intro h18
         have hnri : ¬ RefQ p ((k : Int) - 1000) ((i : Int) - 2002) := fun e => by simp [e.1, e.2] at h18
         refine jx8 ?_
         exact End.lp (i + 1) ⟨by omega, fun j hj => by by_cases e : j = i; (subst e; exact hnri); exact hRi j zo⟩ zo (Ent.mk (.i rfl zi <| zk) (.nil) rfl)
       ·intro h14
        replace h14 := Int.not_le.1 h14
        refine jx4 ?_
        exact End.cut (i) (qNo_of (fun j hj => hRi j zo)) (Ent.mk (.i rfl zi <| zk) (.nil) rfl)
      ·intro i hnb
       refine je ?_; refine jx7 ?_
       exact End.lp (k + 1) ⟨by omega, fun h5 j hj => by by_cases e : j = k; (subst e; exact hnb); exact hR h5 j zo⟩ zo (Ent.mk (.i rfl zi <| zk) (.nil) rfl)
    ·intro h10
     have hk5 : p.length = 5 → k = 2001 := by simp at h10; omega
     refine jx4 ?_
     exact End.cut (k) (redB_f (noRed_of hl3 hs hnr (fun h5 j hj => hR h5 j (by have := hk5 h5; omega)))) (Ent.mk (.i rfl zi <| zk) (.nil) rfl)
   ·intro k hnq
    refine je ?_; refine jx7 ?_; exact Rts.res1 (fn := Tryz.f126) rfl (.b rfl (by rw [hnq]) <| .nil)

end Go.Fl

/- Contracts: remainders, values at fractions and changes of sign, as the reference finds them. -/
namespace Go.Fl
open Go Go.Proofs
open TrL renaming op → tO
open RunD renaming op → rO
set_option maxRecDepth 100000

theorem lst_1 : lstZ 1 = [1] := by decide
theorem short_end {xs : List (List Int)} {n : Nat} (hn : n ≤ xs.length) (hz : ∀ i, n ≤ i → i < xs.length → val (nth xs i) = 0) (hnz : ¬ (0 < n ∧ val (nth xs (n - 1)) = 0)) : (trimL (xs.map val)).length = n := by
 have hl : (xs.map val).length = xs.length := List.length_map ..
 have := cut_end (ys := xs.map val) (m := xs.length) (j := n) zo hn (fun i h1 h2 => by rw [nth_mapv]; exact hz i h1 h2) (fun ⟨h1, h2⟩ => hnz ⟨h1, by rw [nth_mapv] at h2; exact h2⟩)
 rw [List.take_of_length_le zo] at this
 exact this
theorem map_lst_val {xs : List Int} : (xs.map lstZ).map val = xs := map_val
theorem take_lst {xs : List Int} : (xs.map lstZ).take (trimL ((xs.map lstZ).map val)).length = (trimL xs).map lstZ := by
 rw [map_lst_val, ← List.map_take, trim_pre]
theorem lstL_ok {xs : List Int} {B : Nat} (h : ∀ i, dl (nth xs i) ≤ B) : LOk B (xs.map lstZ) := fun i => by
 by_cases hi : i < xs.length
 ·have e : nth (xs.map lstZ) i = lstZ (nth xs i) := by simp [nth, hi]
  rw [e]; exact lst_ok (h i)
 ·rw [nth_out (by rw [List.length_map]; omega)]
  exact ⟨inI_nil, Nat.zero_le _, by show dl (val []) ≤ _; rw [val_nil, dl_zero.2 rfl]; omega⟩
theorem LOk.dl {B : Nat} {xs : List (List Int)} (h : LOk B xs) (i : Nat) : dl (nth (xs.map val) i) ≤ B := by rw [nth_mapv]; exact (h i).2.2
theorem tab_lst {xs : List Int} {k : Nat} (h : xs.length = k) : (tab k fun j => lstZ (nth xs j)) = xs.map lstZ := by
 conv => rhs; rw [tab_nth h]
 simp [tab]
theorem mul_neg3 {s l : Int} (h1 : -1 ≤ s ∧ s ≤ 1) (h2 : -1 ≤ l ∧ l ≤ 1) : s * l < 0 ↔ s ≠ 0 ∧ l ≠ 0 ∧ s ≠ l := by
 rcases (show s = -1 ∨ s = 0 ∨ s = 1 by omega) with rfl | rfl | rfl <;> omega
theorem chg7 {c d : Nat × Int} {s t : Int} (h : c = chgS d t) (ht : t = sgn s) (h1 : -1 ≤ cmpZ s 0 ∧ cmpZ s 0 ≤ 1) (h2 : -1 ≤ d.2 ∧ d.2 ≤ 1) (q1 : cmpZ s 0 ≠ 0) (q2 : d.2 ≠ 0) (q3 : cmpZ s 0 ≠ d.2) : (d.1 : Int) + 1 = (c.1 : Int) := by
 rw [h, ht]
 have : (chgS d (sgn s)).1 = d.1 + 1 := if_pos ((mul_neg3 (s := sgn s) h1 h2).2 ⟨q1, q2, q3⟩)
 omega
theorem chg7n {c d : Nat × Int} {s t : Int} (h : c = chgS d t) (ht : t = sgn s) (h1 : -1 ≤ cmpZ s 0 ∧ cmpZ s 0 ≤ 1) (h2 : -1 ≤ d.2 ∧ d.2 ≤ 1) (q : ¬ (cmpZ s 0 ≠ 0 ∧ d.2 ≠ 0 ∧ cmpZ s 0 ≠ d.2)) : (d.1 : Int) = (c.1 : Int) := by
 rw [h, ht]
 have : (chgS d (sgn s)).1 = d.1 := if_neg fun e => q ((mul_neg3 (s := sgn s) h1 h2).1 e)
 omega
theorem chg8 {c d : Nat × Int} {s t : Int} (h : c = chgS d t) (ht : t = sgn s) (q : cmpZ s 0 ≠ 0) : cmpZ s 0 = c.2 := by
 rw [h, ht]; exact (if_pos q : (chgS d (sgn s)).2 = sgn s).symm
theorem chg8n {c d : Nat × Int} {s t : Int} (h : c = chgS d t) (ht : t = sgn s) (q : cmpZ s 0 = 0) : d.2 = c.2 := by
 rw [h, ht]; exact (if_neg (fun e => e q) : (chgS d (sgn s)).2 = d.2).symm
theorem rest_el1 {ql rs : List (List Int)} {k : Nat} (hq : 1 ≤ ql.length ∧ ql.length ≤ rs.length) (hk : k < rs.length) (h : 0 ≤ (k : Int) - (rs.length : Int) + (ql.length : Int)) : ((tab k fun j => lstZ (nth (agT (ql.map val) (rs.map val)) j)) ++ [lstZ (val (nth rs k) * val (nth ql ((ql.length : Int) - 1).toNat) * val (nth ql ((ql.length : Int) - 1).toNat) - val (nth rs ((rs.length : Int) - 1).toNat) * val (nth ql ((ql.length : Int) - 1).toNat) * val (nth ql ((k : Int) - (rs.length : Int) + (ql.length : Int)).toNat))]) = tab (k + 1) fun j => lstZ (nth (agT (ql.map val) (rs.map val)) j) := by
 have e : nth (agT (ql.map val) (rs.map val)) k = val (nth rs k) * val (nth ql ((ql.length : Int) - 1).toNat) * val (nth ql ((ql.length : Int) - 1).toNat) - val (nth rs ((rs.length : Int) - 1).toNat) * val (nth ql ((ql.length : Int) - 1).toNat) * val (nth ql ((k : Int) - (rs.length : Int) + (ql.length : Int)).toNat) := by
  unfold agT
  rw [List.length_map, List.length_map, nth_tab hk, if_pos zo, nth_mapv, nth_mapv, nth_mapv, nth_mapv, show ((ql.length : Int) - 1).toNat = ql.length - 1 by omega, show ((rs.length : Int) - 1).toNat = rs.length - 1 by omega, show ((k : Int) - (rs.length : Int) + (ql.length : Int)).toNat = k - (rs.length - ql.length) by omega, Int.mul_assoc (val (nth rs k)), Int.sub_eq_add_neg]
 rw [tab_succ, e]
theorem rest_el2 {ql rs : List (List Int)} {k : Nat} (hq : 1 ≤ ql.length ∧ ql.length ≤ rs.length) (hk : k < rs.length) (h : (k : Int) - (rs.length : Int) + (ql.length : Int) < 0) : ((tab k fun j => lstZ (nth (agT (ql.map val) (rs.map val)) j)) ++ [lstZ (val (nth rs k) * val (nth ql ((ql.length : Int) - 1).toNat) * val (nth ql ((ql.length : Int) - 1).toNat))]) = tab (k + 1) fun j => lstZ (nth (agT (ql.map val) (rs.map val)) j) := by
 have e : nth (agT (ql.map val) (rs.map val)) k = val (nth rs k) * val (nth ql ((ql.length : Int) - 1).toNat) * val (nth ql ((ql.length : Int) - 1).toNat) := by
  unfold agT
  rw [List.length_map, List.length_map, nth_tab hk, if_neg zo, nth_mapv, nth_mapv, show ((ql.length : Int) - 1).toNat = ql.length - 1 by omega, Int.mul_assoc (val (nth rs k)), Int.add_zero]
 rw [tab_succ, e]
theorem rest_next {pl ql rs : List (List Int)} {A B : Nat} (hq1 : 1 ≤ ql.length) (hqr : ql.length ≤ rs.length) (hrl : rs.length ≤ pl.length) (hag : agF (ql.map val) rs.length (rs.map val) = agF (ql.map val) pl.length (pl.map val)) (hro : LOk (A + (pl.length - rs.length) * (2 * B + 1)) rs) (hql : LOk B ql) :
  ((agR (ql.map val) (rs.map val)).map lstZ).length ≤ pl.length ∧ agF (ql.map val) ((agR (ql.map val) (rs.map val)).map lstZ).length (((agR (ql.map val) (rs.map val)).map lstZ).map val) = agF (ql.map val) pl.length (pl.map val) ∧ LOk (A + (pl.length - ((agR (ql.map val) (rs.map val)).map lstZ).length) * (2 * B + 1)) ((agR (ql.map val) (rs.map val)).map lstZ) ∧ ((agR (ql.map val) (rs.map val)).map lstZ = pl ∨ (agR (ql.map val) (rs.map val)).map lstZ = (((agR (ql.map val) (rs.map val)).map lstZ).map val).map lstZ) := by
 have hmq : (ql.map val).length = ql.length := List.length_map ..
 have hmr : (rs.map val).length = rs.length := List.length_map ..
 have h1 := agR_len (q := ql.map val) (r := rs.map val) zo zo
 rw [map_lst_val, List.length_map]
 refine ⟨by omega, ?_, ?_, .inr rfl⟩
 ·rw [← hag]
  have := agF_go (q := ql.map val) (r := rs.map val) zo zo
  rw [hmr] at this
  exact this.symm
 ·refine lstL_ok fun i => ?_
  unfold agR
  rw [nth_trim]
  have q1 := agR_dl hro.dl hql.dl i
  have q2 := Nat.mul_le_mul_right (2 * B + 1) (show pl.length - rs.length + 1 ≤ pl.length - (trimL (agT (ql.map val) (rs.map val))).length by unfold agR at h1; omega)
  rw [Nat.succ_mul] at q2
  omega
theorem ct_rshortP (xs : List (List Int)) (B : Nat) (hx : LOk B xs) (hB : B ≤ 1000000) (hl : xs.length ≤ 1000) : Ct Tryz.prog 197 [kRd (eL (eL eI)) xs] (kRd (eL (eL eI)) (xs.take (trimL (xs.map val)).length)) := by
 refine Ct.mk Tryz.func197 rfl Tryz.ntmps197 rfl (fun w J => ?_); refine jx12 ?_
 refine Tr.for (σ := Nat) [⟨0, true, _, _⟩] [] (fun n => [⟨3, true, [], kI (n : Int)⟩]) (fun n => []) (fun n => n ≤ xs.length ∧ ∀ i, n ≤ i → i < xs.length → val (nth xs i) = 0) (fun n => (trimL (xs.map val)).length = n ∧ n ≤ xs.length) (fun n => n) (xs.length) ⟨Nat.le_refl _, fun i h1 h2 => absurd h1 zo⟩ (Ent.mk (.i rfl zi <| zk) (.nil) rfl) ?_ ?_
 ·rintro n ⟨hn, hz⟩
  refine jn ?_; refine jx8 ?_; refine TrL.gd rfl rfl rfl (ok_sub rfl id rfl uu (fun hp => by simp at hp; omega)) rfl rfl ?_
  first | refine TrL.gd rfl rfl rfl (ok_idxN rfl id rfl id rfl (fun hp => by simp at hp; omega)) rfl rfl ?_ | refine TrL.gd rfl rfl rfl (ok_idxP rfl id rfl id rfl (fun hp => by simp at hp; omega)) rfl rfl ?_
  refine jx1 ?_; refine TrL.gd rfl rfl rfl (ok_call (fun hp => ct_rSign _ (hx _).1 (by have := (hx ((n : Int) - 1).toNat).2.1; omega)) (.a rfl id <| .nil)) rfl rfl ?_; refine jx4 ?_; refine Tr.cnd rfl ?_ ?_
  ·intro h2
   try simp only [decide_eq_true_eq, Bool.and_eq_true] at h2
   have hzz : 0 < n ∧ val (nth xs (n - 1)) = 0 := ⟨by omega, by have := cmpZ_z.1 h2.2; rwa [show ((n : Int) - 1).toNat = n - 1 by omega] at this⟩
   refine jx9 ?_
   exact End.lp (n - 1) ⟨by omega, fun i h2 h3 => by by_cases e : i = n - 1; (rw [e]; exact hzz.2); exact hz i zo h3⟩ zo (Ent.mk (.i rfl zi <| zk) (.nil) rfl)
  ·intro h2
   try simp only [decide_eq_true_eq, decide_eq_false_iff_not, Bool.and_eq_false_imp] at h2
   have hnz : ¬ (0 < n ∧ val (nth xs (n - 1)) = 0) := fun ⟨q1, q2⟩ => h2 zo (cmpZ_z.2 (by rw [show ((n : Int) - 1).toNat = n - 1 by omega]; exact q2))
   refine jx4 ?_
   exact End.cut (n) ⟨short_end hn hz hnz, hn⟩ (Ent.mk (.i rfl zi <| zk) (.nil) rfl)
 ·rintro n ⟨ht, hn⟩
  refine jn ?_
  have htn : ((n : Int)).toNat = n := Int.toNat_natCast n
  refine jx4 ?_; refine tO (ok_slJh rfl uu rfl uu (fun _ => zo)) rfl rfl ?_; refine jx4 ?_; exact Rts.res1 (fn := Tryz.f197) rfl (.r rfl (by rw [ht, htn]) <| .nil)

theorem ct_rat (pl : List (List Int)) (a b : List Int) (B C : Nat) (hpl : LOk C pl) (hl : pl.length ≤ 6) (ha : InI a ∧ a.length ≤ B) (hb : InI b ∧ b.length ≤ B) (hda : dl (val a) ≤ B) (hdb : dl (val b) ≤ B) (hB : B ≤ 75000) (hC : C ≤ 20000) : Ct Tryz.prog 131 [kRd (eL (eL eI)) pl, kRd (eL eI) a, kRd (eL eI) b] (kRd (eL eI) (lstZ (hvP (val a) (val b) (pl.map val)).1)) := by
 have hml : (pl.map val).length = pl.length := List.length_map ..
 refine Ct.mk Tryz.func131 rfl Tryz.ntmps131 rfl (fun w J => ?_); refine jx12 ?_; refine TrL.new (ok_bsl eI 10 (fun hp => .cons rfl <| .nil) rfl rfl rfl rfl) rfl rfl rfl rfl ?_; refine TrL.frz 10 [10] ⟨rfl, trivial⟩ (by decide) rfl ?_; refine jl ?_; refine jx12 ?_
 refine Tr.for1 (σ := Nat) [⟨0, true, _, _⟩, ⟨1, true, _, _⟩, ⟨2, true, _, _⟩] [] (fun k => [⟨7, true, [], kRd (eL eI) (lstZ (hvK (val a) (val b) (pl.map val) k).1)⟩, ⟨8, true, [], kRd (eL eI) (lstZ (hvK (val a) (val b) (pl.map val) k).2)⟩, ⟨9, true, [], kI ((pl.length : Int) - 1 - k)⟩]) (fun k => []) (fun k => k ≤ pl.length) (fun k => k = pl.length) (fun k => pl.length - k) (0) zi (Ent.mk (.n rfl (by rw [hvK_zero]; rfl) <| .r rfl (by rw [hvK_zero]; exact lst_1.symm) <| .i rfl zi <| zk) (.nil) rfl) ?_ ?_
 ·intro k hR0
  refine jn ?_
  have hbd := fun (h : k ≤ (pl.map val).length) => hvK_dl (p := pl.map val) (B := B) (C := C) hpl.dl hda hdb (k := k) h
  have hix := fun (h : k < pl.length) => (show ((pl.length : Int) - 1 - (k : Int)).toNat = (pl.map val).length - 1 - k by omega)
  have hk5 := fun (h : k < pl.length) => Nat.mul_le_mul (show k ≤ 5 by omega) (show B + 1 ≤ 75001 by omega)
  have hk6 := fun (h : k < pl.length) => Nat.mul_le_mul (show k ≤ 5 by omega) (show B ≤ 75000 by omega)
  refine jx7 ?_; refine jq ?_ ?_
  ·intro h4
   refine jx5 ?_; refine Tr.draw 8 mixed (by kernel_rfl) ?_
   have hbk := hbd zo
   replace hk5 := hk5 zo
   replace hk6 := hk6 zo
   have hixk := hix zo
   have hq1 := dl_mul (hvK (val a) (val b) (pl.map val) k).1 (val a)
   have hq2 := dl_mul (val (nth pl ((pl.length : Int) - 1 - k).toNat)) (hvK (val a) (val b) (pl.map val) k).2
   have hq3 := (hpl ((pl.length : Int) - 1 - k).toNat).2.2
   refine jx2 ?_; refine rO (ok_call (fun hp => ct_rMul (lstZ (hvK (val a) (val b) (pl.map val) k).1) a (lst_in _) ha.1 (by rw [lst_len]; omega) zo) (.a rfl uu <| .a rfl uu <| .nil)) rfl rfl ?_; refine jx6 ?_; refine tO (ok_call (fun hp => ct_rMul (nth pl ((pl.length : Int) - 1 - k).toNat) (lstZ (hvK (val a) (val b) (pl.map val) k).2) (hpl _).1 (lst_in _) (by have := (hpl ((pl.length : Int) - 1 - k).toNat).2.1; omega) (by rw [lst_len]; omega)) (.a rfl uu <| .a rfl uu <| .nil)) rfl rfl ?_; refine tO (ok_call (fun hp => ct_rAdd (lstZ (val (lstZ (hvK (val a) (val b) (pl.map val) k).1) * val a)) (lstZ (val (nth pl ((pl.length : Int) - 1 - k).toNat) * val (lstZ (hvK (val a) (val b) (pl.map val) k).2))) (lst_in _) (lst_in _) (by rw [lst_len, lst_val]; omega) (by rw [lst_len, lst_val]; omega)) (.a rfl uu <| .a rfl uu <| .nil)) rfl rfl ?_
   refine jx6 ?_; refine tO (ok_call (fun hp => ct_rMul (lstZ (hvK (val a) (val b) (pl.map val) k).2) b (lst_in _) hb.1 (by rw [lst_len]; omega) zo) (.a rfl uu <| .a rfl uu <| .nil)) rfl rfl ?_; refine jx9 ?_
   exact End.lp (k + 1) zi zo (Ent.mk (.r rfl (by rw [hvK_step zo, hixk, lst_val, lst_val, lst_val, lst_val, nth_mapv]) <| .r rfl (by rw [hvK_step zo, lst_val]) <| .i rfl zi <| zk) (.nil) rfl)
  ·intro h4
   replace h4 := Int.not_le.1 h4
   refine jx4 ?_
   exact End.cut (k) zo (Ent.mk (.r rfl zi <| .r rfl zi <| .i rfl zi <| zk) (.nil) rfl)
 ·rintro k hkn
  refine je ?_; refine jx8 ?_; exact Rts.res1 (fn := Tryz.f131) rfl (.r rfl (by rw [hkn, ← hml, hvK_end]) <| .nil)

theorem ct_rchanges (cl : List (List (List Int))) (a b : List Int) (hl : cl.length ≤ 5) (hc : ∀ j, j < cl.length → (nth cl j).length ≤ 5 ∧ LOk 1690 (nth cl j)) (ha : InI a ∧ a.length ≤ 4) (hb : InI b ∧ b.length ≤ 4) (hda : dl (val a) ≤ 4) (hdb : dl (val b) ≤ 4) : Ct Tryz.prog 173 [kRd (eL (eL (eL eI))) cl, kRd (eL eI) a, kRd (eL eI) b] (kI ((chg (cl.map fun q => sgn (hvP (val a) (val b) (q.map val)).1)).1 : Int)) := by
 obtain ⟨sl, hsl⟩ : ∃ sl, sl = (cl.map fun q => sgn (hvP (val a) (val b) (q.map val)).1) := ⟨_, rfl⟩
 have hll : sl.length = cl.length := by rw [hsl, List.length_map]
 have hsn : ∀ j, j < cl.length → nth sl j = sgn (hvP (val a) (val b) ((nth cl j).map val)).1 := fun j hj => by rw [hsl]; simp [nth, hj]
 have hsb : ∀ s ∈ sl, -1 ≤ s ∧ s ≤ 1 := fun s hs => by rw [hsl] at hs; obtain ⟨q, _, rfl⟩ := List.mem_map.1 hs; exact sgn_bd _
 have hcle := fun k => chg_le (l := sl.take k)
 have htk : ∀ k, (sl.take k).length ≤ 5 := fun k => by rw [List.length_take]; omega
 rw [← hsl]
 refine Ct.mk Tryz.func173 rfl Tryz.ntmps173 rfl (fun w J => ?_); refine jx17 ?_
 refine Tr.for1 (σ := Nat) [⟨0, true, _, _⟩, ⟨1, true, _, _⟩, ⟨2, true, _, _⟩] [] (fun k => [⟨7, true, [], kI ((chg (sl.take k)).1 : Int)⟩, ⟨8, true, [], kI (chg (sl.take k)).2⟩, ⟨9, true, [], kI (k : Int)⟩]) (fun k => []) (fun k => k ≤ cl.length) (fun k => k = cl.length) (fun k => cl.length - k) (0) zi (Ent.mk (.i rfl (by rfl) <| .i rfl (by rfl) <| .i rfl zi <| zk) (.nil) rfl) ?_ ?_
 ·intro k hR0
  refine jn ?_
  have hcq := fun (h : k < cl.length) => hc k h
  have hcs := fun (h : k < cl.length) => chg_succ (l := sl) (k := k) zo
  have hsk := fun (h : k < cl.length) => hsn k h
  have hb2 := chg_sn (sl.take k) (fun s hs => hsb s (List.mem_of_mem_take hs))
  have hb1 : -1 ≤ cmpZ (hvP (val a) (val b) ((nth cl k).map val)).1 0 ∧ cmpZ (hvP (val a) (val b) ((nth cl k).map val)).1 0 ≤ 1 := sgn_bd _
  have hb4 := hcle k
  have hb5 := htk k
  refine jx9 ?_; refine jq ?_ ?_
  ·intro h3
   refine jx6 ?_
   have hck := hcq zo
   have hvb := hvK_dl (p := (nth cl k).map val) (B := 4) (C := 1690) hck.2.dl hda hdb (k := (nth cl k).length) (by rw [List.length_map]; exact Nat.le_refl _)
   have hve : hvK (val a) (val b) ((nth cl k).map val) (nth cl k).length = hvP (val a) (val b) ((nth cl k).map val) := by have := hvK_end (a := val a) (d := val b) (p := (nth cl k).map val); rw [List.length_map] at this; exact this
   rw [hve] at hvb
   refine jx6 ?_; refine jc (ct_rat (nth cl k) a b 4 1690 hck.2 zo ha hb hda hdb zo zo) ?_; refine tO (ok_call (fun hp => ct_rSign (lstZ (hvP (val a) (val b) ((nth cl k).map val)).1) (lst_in _) (by rw [lst_len]; omega)) (.a rfl uu <| .nil)) rfl rfl ?_
   rw [lst_val]
   refine jx9 ?_; refine jq ?_ ?_
   ·intro h6
    refine jx12 ?_; refine Tr.cnd rfl ?_ ?_
    ·intro h7
     have hyy : (chg (sl.take k)).2 ≠ 0 ∧ cmpZ (hvP (val a) (val b) ((nth cl k).map val)).1 0 ≠ (chg (sl.take k)).2 := by simpa using h7
     have hy1 := hyy.1
     have hy2 := hyy.2
     refine jx17 ?_
     exact End.lp (k + 1) zi zo (Ent.mk (.i rfl (chg7 (hcs zo) (hsk zo) hb1 hb2 zo zo zo) <| .i rfl (chg8 (hcs zo) (hsk zo) h6) <| .i rfl zi <| zk) (.nil) rfl)
    ·intro h7
     have hno : ¬ (cmpZ (hvP (val a) (val b) ((nth cl k).map val)).1 0 ≠ 0 ∧ (chg (sl.take k)).2 ≠ 0 ∧ cmpZ (hvP (val a) (val b) ((nth cl k).map val)).1 0 ≠ (chg (sl.take k)).2) := fun e => by simp [e.2.1, e.2.2] at h7
     refine jx13 ?_
     exact End.lp (k + 1) zi zo (Ent.mk (.i rfl (chg7n (hcs zo) (hsk zo) hb1 hb2 hno) <| .i rfl (chg8 (hcs zo) (hsk zo) h6) <| .i rfl zi <| zk) (.nil) rfl)
   ·intro h6
    replace h6 := Classical.not_not.1 h6
    refine jx8 ?_
    exact End.lp (k + 1) zi zo (Ent.mk (.i rfl (chg7n (hcs zo) (hsk zo) hb1 hb2 (fun e => absurd h6 e.1)) <| .i rfl (chg8n (hcs zo) (hsk zo) h6) <| .i rfl zi <| zk) (.nil) rfl)
  ·intro h3
   replace h3 := Int.not_lt.1 h3
   refine jx4 ?_
   exact End.cut (k) zo (Ent.mk (.i rfl zi <| .i rfl zi <| .i rfl zi <| zk) (.nil) rfl)
 ·rintro k hkn
  refine je ?_
  have htl : sl.take k = sl := List.take_of_length_le zo
  refine jx8 ?_; exact Rts.res1 (fn := Tryz.f173) rfl (.i rfl (by rw [htl]) <| .nil)

set_option maxHeartbeats 2000000 in
theorem ct_rrest (pl ql : List (List Int)) (A B : Nat) (hpl : LOk A pl) (hql : LOk B ql) (hq1 : 1 ≤ ql.length) (hqp : ql.length ≤ pl.length) (h5 : pl.length ≤ 5) (hA2 : A ≤ 10000) (hB2 : B ≤ 10000) : Ct Tryz.prog 172 [kRd (eL (eL eI)) pl, kRd (eL (eL eI)) ql] (kRd (eL (eL eI)) ((agF (ql.map val) pl.length (pl.map val)).map lstZ)) := by
 have hmp : (pl.map val).length = pl.length := List.length_map ..
 have hmq : (ql.map val).length = ql.length := List.length_map ..
 have hqx : ((ql.length : Int) - 1).toNat = ql.length - 1 := by omega
 refine Ct.mk Tryz.func172 rfl Tryz.ntmps172 rfl (fun w J => ?_); refine jx18 ?_; refine TrL.new (ok_bsl0 (eL eI) 18) rfl rfl rfl rfl ?_; refine jx2 ?_; refine jl ?_; refine jx3 ?_; refine Tr.frz 18 [20, 6] ⟨rfl, rfl, trivial⟩ (by simp only [lenMax]; omega) rfl ?_; refine jn ?_; refine Tr.for (σ := List (List Int)) [⟨1, true, _, _⟩, ⟨5, true, _, _⟩] [] (fun rs => [⟨6, true, [], kRd (eL (eL eI)) rs⟩]) (fun rs => []) (fun rs => rs.length ≤ pl.length ∧ agF (ql.map val) rs.length (rs.map val) = agF (ql.map val) pl.length (pl.map val) ∧ LOk (A + (pl.length - rs.length) * (2 * B + 1)) rs ∧ (rs = pl ∨ rs = (rs.map val).map lstZ)) (fun rs => rs = (agF (ql.map val) pl.length (pl.map val)).map lstZ) (fun rs => rs.length) (pl) ⟨Nat.le_refl _, rfl, hpl.mono zo, .inl rfl⟩ (Ent.mk (.r rfl (by rfl) <| zk) (.nil) rfl) ?_ ?_
 ·rintro rs ⟨hrl, hag, hro, hrp⟩
  refine jn ?_
  have hmr : (rs.map val).length = rs.length := List.length_map ..
  have hmB : (pl.length - rs.length) * (2 * B + 1) ≤ 5 * 20001 := Nat.mul_le_mul zo zo
  refine jx10 ?_; refine jq ?_ ?_
  ·intro h3
   refine jx25 ?_; refine Tr.grow (s := 8) rfl rfl 88 rfl 22 (eL eI) rfl ?_
   refine Tr.for1 (σ := Nat) [⟨1, true, _, _⟩, ⟨5, true, _, _⟩, ⟨6, true, _, _⟩, ⟨7, true, _, _⟩] [] (fun k => [⟨8, true, [88], kOsl 88 k⟩, ⟨9, true, [], kI (k : Int)⟩]) (fun k => [⟨88, [], cArr true 22 (eL eI) (tab k fun j => lstZ (nth (agT (ql.map val) (rs.map val)) j)) k⟩]) (fun k => k ≤ rs.length) (fun k => k = rs.length) (fun k => rs.length - k) (0) zi (Ent.mk (.o rfl zi rfl <| .i rfl zi <| zk) (.a (by rfl) zi <| .nil) rfl) ?_ ?_
   ·intro k hR1
    refine jn ?_
    have hrx : ((rs.length : Int) - 1).toNat = rs.length - 1 := by omega
    have hro1 := hro k
    have hro2 := hro ((rs.length : Int) - 1).toNat
    have hqo := hql ((ql.length : Int) - 1).toNat
    have hqk := hql ((k : Int) - (rs.length : Int) + (ql.length : Int)).toNat
    have hm1 := dl_mul (val (nth rs k)) (val (nth ql ((ql.length : Int) - 1).toNat))
    have hm2 := dl_mul (val (nth rs k) * val (nth ql ((ql.length : Int) - 1).toNat)) (val (nth ql ((ql.length : Int) - 1).toNat))
    have hm3 := dl_mul (val (nth rs ((rs.length : Int) - 1).toNat)) (val (nth ql ((ql.length : Int) - 1).toNat))
    have hm4 := dl_mul (val (nth rs ((rs.length : Int) - 1).toNat) * val (nth ql ((ql.length : Int) - 1).toNat)) (val (nth ql ((k : Int) - (rs.length : Int) + (ql.length : Int)).toNat))
    refine jx9 ?_; refine jq ?_ ?_
    ·intro h7
     refine jx11 ?_; refine jc (ct_rMul (nth rs k) (nth ql ((ql.length : Int) - 1).toNat) hro1.1 hqo.1 zo zo) ?_; refine jx1 ?_; refine tO (ok_call (fun hp => ct_rMul (lstZ (val (nth rs k) * val (nth ql ((ql.length : Int) - 1).toNat))) (nth ql ((ql.length : Int) - 1).toNat) (lst_in _) hqo.1 (by rw [lst_len]; omega) zo) (.a rfl uu <| .a rfl uu <| .nil)) rfl rfl ?_
     rw [lst_val]
     refine jx22 ?_; refine jq ?_ ?_
     ·intro h11
      refine Tr.draw 9 mixed (by kernel_rfl) ?_; refine jx3 ?_; refine jd (ct_rMul (nth rs ((rs.length : Int) - 1).toNat) (nth ql ((ql.length : Int) - 1).toNat) hro2.1 hqo.1 zo zo) ?_; refine jx4 ?_; refine rO (ok_call (fun hp => ct_rMul (lstZ (val (nth rs ((rs.length : Int) - 1).toNat) * val (nth ql ((ql.length : Int) - 1).toNat))) (nth ql ((k : Int) - (rs.length : Int) + (ql.length : Int)).toNat) (lst_in _) hqk.1 (by rw [lst_len]; omega) zo) (.a rfl uu <| .a rfl uu <| .nil)) rfl rfl ?_
      rw [lst_val]
      refine jx1 ?_; refine tO (ok_call (fun hp => ct_rSub (lstZ (val (nth rs k) * val (nth ql ((ql.length : Int) - 1).toNat) * val (nth ql ((ql.length : Int) - 1).toNat))) (lstZ (val (nth rs ((rs.length : Int) - 1).toNat) * val (nth ql ((ql.length : Int) - 1).toNat) * val (nth ql ((k : Int) - (rs.length : Int) + (ql.length : Int)).toNat))) (lst_in _) (lst_in _) (by rw [lst_len]; omega) (by rw [lst_len]; omega)) (.a rfl uu <| .a rfl uu <| .nil)) rfl rfl ?_
      rw [lst_val, lst_val]
      refine jx6 ?_; refine TrL.new (ok_bsl (eL eI) 67 (fun hp => .cons rfl <| .nil) rfl rfl rfl rfl) rfl rfl rfl rfl ?_; refine jx1 ?_; refine jl ?_; refine jx9 ?_
      exact End.lp (k + 1) zi zo (Ent.mk (.o rfl zi rfl <| .i rfl zi <| zk) (.a (rest_el1 zo zo zo) zi <| .nil) rfl)
     ·intro h11
      replace h11 := Int.not_le.1 h11
      refine jx5 ?_; refine TrL.new (ok_bsl (eL eI) 67 (fun hp => .cons rfl <| .nil) rfl rfl rfl rfl) rfl rfl rfl rfl ?_; refine jx1 ?_; refine jl ?_; refine jx9 ?_
      exact End.lp (k + 1) zi zo (Ent.mk (.o rfl zi rfl <| .i rfl zi <| zk) (.a (rest_el2 zo zo zo) zi <| .nil) rfl)
    ·intro h7
     replace h7 := Int.not_lt.1 h7
     refine jx4 ?_
     exact End.cut (k) zo (Ent.mk (.o rfl zi rfl <| .i rfl zi <| zk) (zk) rfl)
   ·rintro k hkr
    refine je ?_
    rw [hkr]
    refine jx3 ?_; refine TrL.frz 88 [8, 69] ⟨rfl, rfl, trivial⟩ (by simp only [lenMax]; omega) rfl ?_; refine jl ?_; refine jc (ct_rshortP (tab rs.length fun j => lstZ (nth (agT (ql.map val) (rs.map val)) j)) 200000 (by rw [tab_lst (xs := agT (ql.map val) (rs.map val)) (by rw [agT_len]; omega)]; exact lstL_ok (fun i => Nat.le_trans (agR_dl hro.dl hql.dl i) zo)) zo (by rw [tab_len]; omega)) ?_; refine jx3 ?_; exact End.lp ((agR (ql.map val) (rs.map val)).map lstZ) (rest_next zo zo zo hag hro hql) (by have := agR_len (q := (ql.map val)) (r := (rs.map val)) zo zo; show ((agR (ql.map val) (rs.map val)).map lstZ).length < rs.length; rw [List.length_map]; omega) (Ent.mk (.r rfl (by rw [tab_lst (xs := agT (ql.map val) (rs.map val)) (by rw [agT_len]; omega)]; exact take_lst) <| zk) (.nil) rfl)
  ·intro h3
   replace h3 := Int.not_le.1 h3
   refine jx4 ?_
   exact End.cut (rs) (by rw [← hag]; have h1 := agF_end (q := (ql.map val)) (r := (rs.map val)) zo; rw [hmr] at h1; rw [h1]; exact hrp.resolve_left (fun e => by rw [e] at h3; omega)) (Ent.mk (.r rfl zi <| zk) (.nil) rfl)
 ·rintro rs hre
  refine jn ?_; refine jx7 ?_; exact Rts.res1 (fn := Tryz.f172) rfl (.r rfl (by rw [hre]) <| .nil)

end Go.Fl
