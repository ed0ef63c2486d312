/- Laws on walking typed knowledge through code, and contracts. -/
import Derived.Test.YtphkjcmonjbpfaaM2
import Derived.Shelf.Bits.Mul64
import Derived.Test.YtphkjcmonjbpfaaProg
import Derived.ProofKit
import Derived.LaidMore
import Derived.OpenShut
import Derived.Lay
import Derived.LaidOnce
import Derived.SevenTiedAt
import Derived.Stop.Joined
import Derived.Laws.CopyRow
import Derived.Shelf.Sort.Plain
import Derived.Shelf.SlSortCmp.Whole1
import Derived.Sort.OwnSortedInts
import Derived.Ground.SlsfProg

/- Components of an origami. Plain Lean, no program in sight. -/
namespace Go.Fl

theorem seenB_congr {n : Nat} {S T : List Int} (h : ∀ x, Sq n x → (x ∈ S ↔ x ∈ T)) : seenB n S = seenB n T := by
  unfold seenB
  refine List.map_congr_left fun j hj => ?_
  have := h j (Sq.nat (List.mem_range.1 hj))
  by_cases hm : (j : Int) ∈ S
  · rw [decide_eq_true hm, decide_eq_true (this.1 hm)]
  · rw [decide_eq_false hm, decide_eq_false (fun k => hm (this.2 k))]
def sqs (n : Nat) : List Int := tab n (fun i => (i : Int))
theorem mem_sqs {n : Nat} {x : Int} : x ∈ sqs n ↔ Sq n x := by
  unfold sqs tab
  rw [List.mem_map]
  constructor
  · rintro ⟨i, hi, rfl⟩; exact Sq.nat (List.mem_range.1 hi)
  · intro h; exact ⟨x.toNat, List.mem_range.2 (by have := h.1; have := h.2; omega), by have := h.1; show ((x.toNat : Nat) : Int) = x; omega⟩
theorem sqs_lt {n : Nat} : (sqs n).Pairwise (· < ·) := by
  unfold sqs tab
  rw [List.pairwise_map]
  exact List.pairwise_lt_range.imp fun h => by omega
/-- The members of a list, ascending. -/
def asc (n : Nat) (l : List Int) : List Int := (sqs n).filter (fun x => decide (x ∈ l))
theorem mem_asc {n : Nat} {l : List Int} (h : ∀ x ∈ l, Sq n x) {x : Int} : x ∈ asc n l ↔ x ∈ l := by
  unfold asc
  rw [List.mem_filter, mem_sqs, decide_eq_true_eq]
  exact ⟨fun k => k.2, fun k => ⟨h x k, k⟩⟩
theorem asc_lt {n : Nat} {l : List Int} : (asc n l).Pairwise (· < ·) := sqs_lt.filter _
theorem nodup_of_lt {l : List Int} (h : l.Pairwise (· < ·)) : l.Nodup := h.imp fun h => by omega
theorem asc_nodup {n : Nat} {l : List Int} : (asc n l).Nodup := nodup_of_lt asc_lt
theorem asc_good {n : Nat} {l : List Int} (h : ∀ x ∈ l, Sq n x) : Good n (asc n l) := ⟨asc_nodup, fun x hx => h x ((mem_asc h).1 hx)⟩
abbrev sortI (l : List Int) : List Int := l.mergeSort fun x y => decide (x ≤ y)
theorem sortI_eq {l m : List Int} (h : m.Pairwise (· ≤ ·)) (hp : l.Perm m) : sortI l = m := by
  refine List.Perm.eq_of_pairwise (le := fun a b => a ≤ b) (fun a b _ _ h1 h2 => by omega) ?_ h ((List.mergeSort_perm _ _).trans hp)
  have := List.pairwise_mergeSort (le := fun x y : Int => decide (x ≤ y)) (fun a b c h1 h2 => by simp at *; omega) (fun a b => by simp; omega) l
  exact this.imp fun h => by simpa using h
theorem sort_asc {n : Nat} {l : List Int} (h : Good n l) : sortI l = asc n l :=
  sortI_eq (asc_lt.imp fun h => by omega) ((List.perm_ext_iff_of_nodup h.nodup asc_nodup).2 fun _ => (mem_asc h.rng).symm)
theorem asc_len {n : Nat} {l : List Int} (h : Good n l) : (asc n l).length = l.length := ((List.perm_ext_iff_of_nodup h.nodup asc_nodup).2 fun _ => (mem_asc h.rng).symm).length_eq.symm

/-- The squares of a component, ascending. -/
def compL (o : Ori) (s : Int) : List Int := asc o.1.length (reach o s)
def comps (o : Ori) : Nat → List (List Int)
  | 0 => []
  | k + 1 => if (k : Int) ∈ (comps o k).flatten then comps o k else comps o k ++ [compL o k]
section
variable {o : Ori} {s x y : Int}
theorem mem_compL (v : Valid o) (hs : Sq o.1.length s) : x ∈ compL o s ↔ x ∈ reach o s := mem_asc (reach_good v hs).rng
theorem comps_in {k : Nat} (h : (k : Int) ∈ (comps o k).flatten) : comps o (k + 1) = comps o k := by rw [comps, if_pos h]
theorem comps_new {k : Nat} (h : (k : Int) ∉ (comps o k).flatten) : comps o (k + 1) = comps o k ++ [compL o k] := by rw [comps, if_neg h]
theorem comps_mem (v : Valid o) : ∀ {k : Nat}, k ≤ o.1.length → ∀ {x : Int}, x ∈ (comps o k).flatten ↔ ∃ j : Nat, j < k ∧ x ∈ reach o j
  | 0, _, x => by simp [comps]
  | k + 1, h, x => by
    have ih := fun {x} => comps_mem v (k := k) (by omega) (x := x)
    have hk : Sq o.1.length (k : Int) := Sq.nat (by omega)
    by_cases hm : (k : Int) ∈ (comps o k).flatten
    · rw [comps_in hm, ih]
      refine ⟨fun ⟨j, h1, h2⟩ => ⟨j, by omega, h2⟩, fun ⟨j, h1, h2⟩ => ?_⟩
      by_cases e : j = k
      · subst e
        obtain ⟨i, h3, h4⟩ := ih.1 hm
        exact ⟨i, h3, reach_trans v (Sq.nat (by omega)) h4 h2⟩
      · exact ⟨j, by omega, h2⟩
    · rw [comps_new hm, List.flatten_append, List.mem_append, ih]
      simp only [List.flatten_cons, List.flatten_nil, List.append_nil, mem_compL v hk]
      constructor
      · rintro (⟨j, h1, h2⟩ | h)
        · exact ⟨j, by omega, h2⟩
        · exact ⟨k, by omega, h⟩
      · rintro ⟨j, h1, h2⟩
        by_cases e : j = k
        · subst e; exact .inr h2
        · exact .inl ⟨j, by omega, h2⟩
theorem comps_fwd (v : Valid o) {k : Nat} (h : k ≤ o.1.length) : Fwd o (· ∈ (comps o k).flatten) := fun x hx hm => by
  obtain ⟨j, h1, h2⟩ := (comps_mem v h).1 hm
  have := reach_closed v (Sq.nat (by omega)) h2
  exact ⟨(comps_mem v h).2 ⟨j, h1, this.1⟩, (comps_mem v h).2 ⟨j, h1, this.2⟩⟩
theorem comps_len : ∀ {k : Nat}, (comps o k).length ≤ k
  | 0 => Nat.le_refl _
  | k + 1 => by
    have := comps_len (k := k)
    rw [comps]; split
    · omega
    · rw [List.length_append, List.length_singleton]; omega
theorem comps_rng (v : Valid o) {k : Nat} (h : k ≤ o.1.length) {x : Int} (hx : x ∈ (comps o k).flatten) : Sq o.1.length x := by
  obtain ⟨j, h1, h2⟩ := (comps_mem v h).1 hx
  exact reach_sq v (Sq.nat (by omega)) h2
theorem comps_good (v : Valid o) : ∀ {k : Nat}, k ≤ o.1.length → Good o.1.length (comps o k).flatten
  | 0, _ => Good.nil
  | k + 1, h => by
    have ih := comps_good v (k := k) (by omega)
    by_cases hm : (k : Int) ∈ (comps o k).flatten
    · rw [comps_in hm]; exact ih
    · have hk : Sq o.1.length (k : Int) := Sq.nat (by omega)
      rw [comps_new hm, List.flatten_append]
      simp only [List.flatten_cons, List.flatten_nil, List.append_nil]
      refine ⟨List.nodup_append.2 ⟨ih.nodup, asc_nodup, fun a ha b hb e => ?_⟩, fun a ha => ?_⟩
      · subst e
        have hb := (mem_compL v hk).1 hb
        obtain ⟨j, h1, h2⟩ := (comps_mem v (by omega)).1 ha
        exact hm ((comps_mem v (by omega)).2 ⟨j, h1, reach_trans v (Sq.nat (by omega)) h2 (reach_symm v hk hb)⟩)
      · rcases List.mem_append.1 ha with ha | ha
        · exact ih.rng a ha
        · exact reach_sq v hk ((mem_compL v hk).1 ha)
theorem comps_start (v : Valid o) {k : Nat} (hk : k < o.1.length) (hm : (k : Int) ∉ (comps o k).flatten) : Good o.1.length ((comps o k).flatten ++ [(k : Int)]) := (comps_good v (by omega)).snoc (by omega) (by omega) hm
theorem comps_bfs (v : Valid o) {k : Nat} (hk : k < o.1.length) (hm : (k : Int) ∉ (comps o k).flatten) : bfs o (comps o k).flatten k = reach o k := bfs_clean v (comps_fwd v (by omega)) (Sq.nat hk) hm
theorem comps_pos (v : Valid o) : 0 < (comps o o.1.length).length := by
  have h0 := v.pos
  obtain ⟨m, hm⟩ : ∃ m, o.1.length = m + 1 := ⟨o.1.length - 1, by omega⟩
  rw [hm]
  have : ∀ m, 0 < (comps o (m + 1)).length := by
    intro m
    induction m with
    | zero => rw [comps_new (by simp [comps])]; simp
    | succ m ih =>
      rw [comps]; split
      · exact ih
      · simp
  exact this m
/-- One component alone. -/
def Conn (o : Ori) : Prop := (comps o o.1.length).length ≤ 1
theorem comps_pre {k : Nat} : ∀ {m : Nat}, k ≤ m → ∃ r, comps o m = comps o k ++ r
  | 0, h => by obtain rfl : k = 0 := by omega
               exact ⟨[], by simp⟩
  | m + 1, h => by
    by_cases e : k = m + 1
    · subst e; exact ⟨[], by simp⟩
    obtain ⟨r, hr⟩ := comps_pre (m := m) (k := k) (by omega)
    rw [comps]; split
    · exact ⟨r, hr⟩
    · exact ⟨r ++ [compL o m], by rw [hr, List.append_assoc]⟩
theorem Conn.all (v : Valid o) (h : Conn o) (hs : Sq o.1.length s) (hx : Sq o.1.length x) : x ∈ reach o s := by
  have hp := v.pos
  have h0 : Sq o.1.length ((0 : Nat) : Int) := Sq.nat hp
  have e1 : comps o 1 = [compL o (0 : Nat)] := by rw [comps_new (by simp [comps])]; rfl
  obtain ⟨r, hr⟩ := comps_pre (o := o) (show 1 ≤ o.1.length by omega)
  have hr0 : r = [] := by
    unfold Conn at h
    rw [hr, e1, List.length_append, List.length_singleton] at h
    exact List.eq_nil_of_length_eq_zero (by omega)
  rw [hr0, List.append_nil, e1] at hr
  have key : ∀ {y : Int}, Sq o.1.length y → y ∈ reach o ((0 : Nat) : Int) := fun {y} hy => by
    have : y ∈ (comps o o.1.length).flatten := (comps_mem v (Nat.le_refl _)).2 ⟨y.toNat, by have := hy.1; have := hy.2; omega, by
      rw [show ((y.toNat : Nat) : Int) = y by have := hy.1; omega]; exact reach_self⟩
    rw [hr] at this
    simp only [List.flatten_cons, List.flatten_nil, List.append_nil] at this
    exact (mem_compL v h0).1 this
  exact reach_trans v hs (reach_symm v h0 (key hs)) (key hx)
theorem Conn.len (v : Valid o) (h : Conn o) (hs : Sq o.1.length s) : (reach o s).length = o.1.length := by
  have hp : (reach o s).Perm (sqs o.1.length) := (List.perm_ext_iff_of_nodup (reach_good v hs).nodup (nodup_of_lt sqs_lt)).2 fun x => ⟨fun h1 => mem_sqs.2 (reach_sq v hs h1), fun h1 => h.all v hs (mem_sqs.1 h1)⟩
  rw [hp.length_eq]; simp [sqs, tab]
end
/-- The error of an origami that has to be connected; of two of them. -/
def splE (o : Ori) : Int := if 1 < (comps o o.1.length).length then 16 else 0
def chk1 (o : Ori) : Int := orE (chkO o) (splE o)
theorem chk1_zero {o : Ori} (h : chk1 o = 0) : Valid o ∧ Conn o := by
  obtain ⟨h1, h2⟩ := orE_zero.1 h
  refine ⟨valid_of h1, ?_⟩
  unfold splE at h2
  unfold Conn
  split at h2 <;> omega
/-- Least in its component. -/
theorem compL_head {o : Ori} (v : Valid o) {k : Nat} (hk : k < o.1.length) : nth (compL o k) 0 = k ↔ (k : Int) ∉ (comps o k).flatten := by
  have hs : Sq o.1.length (k : Int) := Sq.nat hk
  have hself : (k : Int) ∈ compL o k := (mem_compL v hs).2 reach_self
  have hpos : 0 < (compL o k).length := List.length_pos_iff.2 (List.ne_nil_of_mem hself)
  have hmin : ∀ y ∈ compL o k, nth (compL o k) 0 ≤ y := by
    have : (compL o k).Pairwise (· < ·) := asc_lt
    cases hc : compL o k with
    | nil => intro y hy; cases hy
    | cons a l =>
      rw [hc] at this
      intro y hy
      rw [show nth (a :: l) 0 = a from rfl]
      rcases List.mem_cons.1 hy with rfl | hy
      · exact Int.le_refl _
      · exact Int.le_of_lt ((List.pairwise_cons.1 this).1 y hy)
  rw [comps_mem v (by omega)]
  constructor
  · rintro e ⟨j, hj, hm⟩
    have := hmin j ((mem_compL v hs).2 (reach_symm v (Sq.nat (by omega)) hm))
    omega
  · intro h
    have h0 := (mem_compL v hs).1 (nth_mem hpos)
    have hq := reach_sq v hs h0
    have hle := hmin k hself
    rcases Int.lt_or_eq_of_le hle with h1 | h1
    · refine absurd ⟨(nth (compL o k) 0).toNat, by have := hq.1; omega, ?_⟩ h
      rw [show (((nth (compL o k) 0).toNat : Nat) : Int) = nth (compL o k) 0 by have := hq.1; omega]
      exact reach_symm v hs h0
    · exact h1
/-- After round r the first r + 1 of the search have been met. -/
theorem reach_rounds {o : Ori} {s : Int} {S : List Int} {r : Nat} (h : ∀ j, j ≤ r → j < (reach o s).length → nth (reach o s) j ∈ S) {T : List Int} (hST : ∀ x ∈ S, x ∈ T)
    (hT : ∀ j, j ≤ r → j < (reach o s).length → ∀ y ∈ stp o (nth (reach o s) j), y ∈ T) : ∀ j, j ≤ r + 1 → j < (reach o s).length → nth (reach o s) j ∈ T := fun j hj hl => by
  by_cases e : j ≤ r
  · exact hST _ (h j e hl)
  · obtain ⟨i, hi, hm⟩ := bfsTo_from (o := o) (F := []) (s := s) (k := o.1.length) (i := j) (by omega) hl
    exact hT i (by omega) (Nat.lt_trans hi hl) _ hm
theorem asc_congr {n : Nat} {l m : List Int} (h : ∀ x, Sq n x → (x ∈ l ↔ x ∈ m)) : asc n l = asc n m := by
  unfold asc
  refine List.filter_congr fun x hx => ?_
  have := h x (mem_sqs.1 hx)
  by_cases hm : x ∈ l
  · rw [decide_eq_true hm, decide_eq_true (this.1 hm)]
  · rw [decide_eq_false hm, decide_eq_false (fun k => hm (this.2 k))]
end Go.Fl

/- Orders of the vertices, descending; cycles of permutations that are conjugate. Plain Lean, no program in sight. -/
namespace Go.Fl

/-! ### The members of a list, descending -/
def eqB (k : Nat) (x : Int) : Bool := decide (x = k)
def dnL (L : List Int) : Nat → List Int
  | 0 => L.filter (eqB 0)
  | k + 1 => L.filter (eqB (k + 1)) ++ dnL L k
theorem mem_dnL {L : List Int} : ∀ {k : Nat} {x : Int}, x ∈ dnL L k → x ∈ L ∧ x ≤ k
  | 0, x, h => by
    obtain ⟨h1, h2⟩ := List.mem_filter.1 h
    have := of_decide_eq_true h2
    exact ⟨h1, by omega⟩
  | k + 1, x, h => by
    rcases List.mem_append.1 h with h | h
    · obtain ⟨h1, h2⟩ := List.mem_filter.1 h
      have := of_decide_eq_true h2
      exact ⟨h1, by omega⟩
    · obtain ⟨h1, h2⟩ := mem_dnL h
      exact ⟨h1, by omega⟩
theorem dnL_desc {L : List Int} : ∀ {k : Nat}, (dnL L k).Pairwise (fun a b => b ≤ a)
  | 0 => by
    rw [List.pairwise_iff_forall_sublist]
    intro a b hs
    have ha := mem_dnL (k := 0) (hs.subset (List.mem_cons_self))
    have hb := List.mem_filter.1 (hs.subset (show a ∈ [a, b] by simp))
    have := of_decide_eq_true hb.2
    have hb' := (mem_dnL (k := 0) (hs.subset (show b ∈ [a, b] by simp))).2
    omega
  | k + 1 => by
    refine List.pairwise_append.2 ⟨?_, dnL_desc, fun a ha b hb => ?_⟩
    · rw [List.pairwise_iff_forall_sublist]
      intro a b hs
      have ha := List.mem_filter.1 (hs.subset (show a ∈ [a, b] by simp))
      have hb := List.mem_filter.1 (hs.subset (show b ∈ [a, b] by simp))
      have h1 := of_decide_eq_true ha.2
      have h2 := of_decide_eq_true hb.2
      omega
    · have h1 := of_decide_eq_true (List.mem_filter.1 ha).2
      have := (mem_dnL hb).2
      omega
theorem dnL_perm {L : List Int} (h : ∀ x ∈ L, 0 ≤ x) : ∀ {k : Nat}, (dnL L k).Perm (L.filter fun x => decide (x ≤ k))
  | 0 => by
    refine List.Perm.of_eq (List.filter_congr fun x hx => ?_)
    have := h x hx
    unfold eqB
    by_cases e : x = (0 : Nat)
    · rw [decide_eq_true e, decide_eq_true (by omega)]
    · rw [decide_eq_false e, decide_eq_false (by omega)]
  | k + 1 => by
    have ih := dnL_perm h (k := k)
    have h1 := List.filter_append_perm (eqB (k + 1)) (L.filter fun x => decide (x ≤ ((k + 1 : Nat) : Int)))
    refine List.Perm.trans ?_ h1
    rw [List.filter_filter, List.filter_filter]
    refine List.Perm.append (List.Perm.of_eq (List.filter_congr fun x _ => ?_)) (ih.trans (List.Perm.of_eq (List.filter_congr fun x _ => ?_)))
    · unfold eqB
      by_cases e : x = ((k + 1 : Nat) : Int)
      · rw [decide_eq_true e, decide_eq_true (by omega)]; rfl
      · rw [decide_eq_false e]; rfl
    · unfold eqB
      by_cases e : x ≤ (k : Int)
      · rw [decide_eq_true e, decide_eq_false (show ¬ x = ((k + 1 : Nat) : Int) by omega), decide_eq_true (show x ≤ ((k + 1 : Nat) : Int) by omega)]; rfl
      · rw [decide_eq_false e]
        by_cases e2 : x = ((k + 1 : Nat) : Int)
        · rw [decide_eq_true e2]; rfl
        · rw [decide_eq_false e2, decide_eq_false (show ¬ x ≤ ((k + 1 : Nat) : Int) by omega)]; rfl
theorem dnL_all {L : List Int} {k : Nat} (h : ∀ x ∈ L, 0 ≤ x ∧ x ≤ k) : (dnL L k).Perm L := by
  refine (dnL_perm fun x hx => (h x hx).1).trans (List.Perm.of_eq ?_)
  exact List.filter_eq_self.2 fun x hx => by simp [(h x hx).2]
/-- What is a permutation of L and descends is dnL. -/
theorem dnL_uniq {L M : List Int} {k : Nat} (h : ∀ x ∈ L, 0 ≤ x ∧ x ≤ k) (hp : M.Perm L) (hd : M.Pairwise (fun a b => b ≤ a)) : M = dnL L k :=
  List.Perm.eq_of_pairwise (le := fun a b => b ≤ a) (fun a b _ _ h1 h2 => by omega) hd dnL_desc (hp.trans (dnL_all h).symm)
theorem dnL_congr {L M : List Int} {k : Nat} (h : ∀ x ∈ L, 0 ≤ x ∧ x ≤ k) (hp : M.Perm L) : dnL M k = dnL L k :=
  dnL_uniq h ((dnL_all fun x hx => h x (hp.mem_iff.1 hx)).trans hp) dnL_desc
def ordOf (L : List (List Int)) : List Int := L.map fun c => (c.length : Int) - 1
def ordsL (o : Ori) : List Int := ordOf (vtx o)
def stratL (o : Ori) : List Int := dnL (ordsL o) o.1.length

/-! ### Cycles -/
section
variable {p : List Int} {n : Nat} (P : Perm p n)
theorem cycs_len_pos (P : Perm p n) {c : List Int} (h : c ∈ cycs p n) : 0 < c.length ∧ c.length ≤ n := by
  obtain ⟨j, hj, _, rfl⟩ := P.cycs_mem (Nat.le_refl _) h
  have := P.pers (Sq.nat hj)
  rw [orb_len]; omega
theorem ordOf_rng (P : Perm p n) : ∀ x ∈ ordOf (cycs p n), 0 ≤ x ∧ x ≤ n := fun x hx => by
  obtain ⟨c, hc, rfl⟩ := List.mem_map.1 hx
  have := cycs_len_pos P hc
  omega
/-- How long the cycle of a place is, from any place of it. -/
theorem per_orb (P : Perm p n) {x y : Int} (hx : Sq n x) (hy : y ∈ orb p x) : per p y = per p x := by
  have hyq := P.orb_rng hx hy
  have h1 : (orb p y).Perm (orb p x) := (List.perm_ext_iff_of_nodup (P.orb_nodup hyq) (P.orb_nodup hx)).2 fun z => ⟨fun h => P.orb_trans hx hy h, fun h => P.orb_trans hyq (P.orb_symm hx hy) h⟩
  have := h1.length_eq
  rwa [orb_len, orb_len] at this
theorem flat_perm (P : Perm p n) (h0 : 0 < n) : (cycs p n).flatten.Perm (sqs n) := by
  have hl : p.length = n := P.ln
  have hg : Good n (cycs p n).flatten := by have := cycs_good (p := p) (by rw [hl]; exact P.rg) (k := n) (by omega); rwa [hl] at this
  refine (List.perm_ext_iff_of_nodup hg.nodup (nodup_of_lt sqs_lt)).2 fun x => ⟨fun h => mem_sqs.2 (hg.rng x h), fun h => ?_⟩
  have hx := mem_sqs.1 h
  have := cycs_mem (p := p) (by omega) (k := n) (i := x.toNat) (by have := hx.1; have := hx.2; omega)
  rwa [show ((x.toNat : Nat) : Int) = x by have := hx.1; omega] at this
/-- m times the number of the cycles of m places is the number of places on them. -/
theorem count_cyc (P : Perm p n) (h0 : 0 < n) (m : Nat) : (sqs n).countP (fun x => per p x == m) = m * (cycs p n).countP (fun c => c.length == m) := by
  rw [← (flat_perm P h0).countP_eq]
  have key : ∀ L : List (List Int), (∀ c ∈ L, c ∈ cycs p n) → L.flatten.countP (fun x => per p x == m) = m * L.countP (fun c => c.length == m) := by
    intro L
    induction L with
    | nil => intro _; rfl
    | cons c L ih =>
      intro h
      rw [List.flatten_cons, List.countP_append, List.countP_cons, ih fun c hc => h c (List.mem_cons_of_mem _ hc)]
      obtain ⟨j, hj, _, hc⟩ := P.cycs_mem (Nat.le_refl _) (h c List.mem_cons_self)
      have hper : ∀ x ∈ c, per p x = c.length := fun x hx => by
        rw [hc] at hx
        rw [per_orb P (Sq.nat hj) hx, hc, orb_len]
      by_cases e : c.length = m
      · rw [if_pos (by simp [e]), Nat.mul_add, Nat.mul_one, Nat.add_comm]
        congr 1
        rw [List.countP_eq_length.2 fun x hx => by rw [hper x hx]; simp [e], e]
      · rw [if_neg (by simp [e]), List.countP_eq_zero.2 fun x hx => by rw [hper x hx]; simp [e], Nat.zero_add, Nat.add_zero]
  exact key _ fun _ h => h
end
/-- Conjugate permutations have cycles of the same lengths. -/
theorem conj_ord {p q f : List Int} {n : Nat} (h0 : 0 < n) (P : Perm p n) (Q : Perm q n) (F : Perm f n) (h : ∀ x, Sq n x → ap q (ap f x) = ap f (ap p x)) : (ordOf (cycs q n)).Perm (ordOf (cycs p n)) := by
  have hit : ∀ m x, Sq n x → it q m (ap f x) = ap f (it p m x) := by
    intro m
    induction m with
    | zero => intro x _; rfl
    | succ m ih =>
      intro x hx
      rw [it_succ, it_succ, ih x hx, h _ (P.its hx m)]
  have hper : ∀ x, Sq n x → per q (ap f x) = per p x := by
    intro x hx
    obtain ⟨a1, a2, a3, a4⟩ := P.pers hx
    obtain ⟨b1, b2, b3, b4⟩ := Q.pers (F.aps hx)
    rcases Nat.lt_trichotomy (per q (ap f x)) (per p x) with hlt | heq | hgt
    · refine absurd ?_ (a4 _ b2 hlt)
      have := hit (per q (ap f x)) x hx
      rw [b1] at this
      exact (F.inj hx (P.its hx _) this).symm
    · exact heq
    · refine absurd ?_ (b4 _ a2 hgt)
      rw [hit _ x hx, a1]
  have hcnt : ∀ m, (sqs n).countP (fun x => per q x == m) = (sqs n).countP (fun x => per p x == m) := by
    intro m
    have hfp : f.Perm (sqs n) := (List.perm_ext_iff_of_nodup F.nd (nodup_of_lt sqs_lt)).2 fun x => by
      rw [mem_sqs]
      constructor
      · intro hx
        obtain ⟨i, hi, rfl⟩ := List.getElem_of_mem hx
        have := F.rg i hi
        rwa [nth_of_get? (List.getElem?_eq_getElem hi)] at this
      · intro hx
        obtain ⟨y, hy, e⟩ := F.onto hx
        rw [← e]; exact nth_mem (by have := F.ln; have := hy.1; have := hy.2; omega)
    rw [← hfp.countP_eq]
    have : f = (sqs n).map (ap f) := by
      refine ext_nth (by simp [sqs, tab, F.ln]) fun i hi => ?_
      have hin : i < n := by have := F.ln; omega
      rw [nth_map (by simp [sqs, tab]; omega)]
      simp [sqs, nth_tab hin, ap]
    rw [this, List.countP_map]
    exact List.countP_congr fun x hx => by simp [hper x (mem_sqs.1 hx)]
  have hc : ∀ m, (cycs q n).countP (fun c => c.length == m) = (cycs p n).countP (fun c => c.length == m) := by
    intro m
    have h1 := count_cyc P h0 m
    have h2 := count_cyc Q h0 m
    rw [hcnt m, h1] at h2
    rcases Nat.eq_zero_or_pos m with rfl | hm
    · rw [List.countP_eq_zero.2 fun c hc hh => by have := cycs_len_pos Q hc; have := eq_of_beq hh; omega, List.countP_eq_zero.2 fun c hc hh => by have := cycs_len_pos P hc; have := eq_of_beq hh; omega]
    · exact (Nat.eq_of_mul_eq_mul_left hm h2).symm
  rw [List.perm_iff_count]
  intro x
  unfold ordOf List.count
  rw [List.countP_map, List.countP_map]
  have key : ∀ {L : List (List Int)}, (∀ c ∈ L, 0 < c.length) → List.countP ((fun y => y == x) ∘ fun c : List Int => (c.length : Int) - 1) L = if 0 ≤ x then L.countP (fun c => c.length == (x + 1).toNat) else 0 := fun {L} hL => by
    by_cases hx : 0 ≤ x
    · rw [if_pos hx]
      exact List.countP_congr fun c hc => by have := hL c hc; simp; omega
    · rw [if_neg hx]
      exact List.countP_eq_zero.2 fun c hc => by have := hL c hc; simp; omega
  rw [key fun c hc => (cycs_len_pos Q hc).1, key fun c hc => (cycs_len_pos P hc).1, hc]
theorem strat_conj {o o' : Ori} (v : Valid o) (v' : Valid o') (hn : o'.1.length = o.1.length) {f : List Int} (F : Perm f o.1.length) (h : ∀ x, Sq o.1.length x → ap (comm o') (ap f x) = ap f (ap (comm o) x)) : stratL o' = stratL o := by
  have P := v.pC
  have Q := v'.pC
  rw [hn] at Q
  unfold stratL ordsL vtx
  rw [hn]
  exact dnL_congr (ordOf_rng P) (conj_ord v.pos P Q F h)
end Go.Fl

/- A direction made horizontal. Plain Lean, no program in sight. -/
namespace Go.Fl

section
variable {p q : List Int} {n : Nat}
theorem Perm.inv_ap (P : Perm p n) {x : Int} (hx : Sq n x) : Fl.ap (invL p) (Fl.ap p x) = x := by
  have := inv_at P.nd P.rg P.ln (i := x.toNat) (by have := hx.1; have := hx.2; omega)
  unfold Fl.ap; rw [this]; have := hx.1; omega
theorem Perm.ap_inv (P : Perm p n) {x : Int} (hx : Sq n x) : Fl.ap p (Fl.ap (invL p) x) = x := at_inv P.nd P.rg P.ln hx.1 hx.2
theorem ap_then (P : Perm p n) {x : Int} (hx : Sq n x) : ap (thenL p q) x = ap q (ap p x) := by
  unfold ap thenL
  rw [nth_tab (by have := P.ln; have := hx.1; have := hx.2; omega)]
end
/-- p, and then m times q. -/
def thenN (p q : List Int) : Nat → List Int
  | 0 => p
  | m + 1 => thenL (thenN p q m) q
def dirL (q : List Int) (k : Int) : List Int := if k < 0 then invL q else q
def thenK (p q : List Int) (k : Int) : List Int := thenN p (dirL q k) k.natAbs
theorem thenN_perm {p q : List Int} {n : Nat} (P : Perm p n) (Q : Perm q n) : ∀ m, Perm (thenN p q m) n
  | 0 => P
  | m + 1 => (thenN_perm P Q m).then Q
theorem thenN_ap {p q : List Int} {n : Nat} (P : Perm p n) (Q : Perm q n) {x : Int} (hx : Sq n x) : ∀ m, ap (thenN p q m) x = it q m (ap p x)
  | 0 => rfl
  | m + 1 => by rw [thenN, ap_then (thenN_perm P Q m) hx, thenN_ap P Q hx m, it_succ]
theorem dirL_perm {q : List Int} {n : Nat} (Q : Perm q n) (k : Int) : Perm (dirL q k) n := by
  unfold dirL; split
  · exact Q.inv
  · exact Q
/-- Powers go with the inverse. -/
theorem it_inv {q : List Int} {n : Nat} (Q : Perm q n) (k : Int) : ∀ m {x : Int}, Sq n x → ap (invL q) (it (dirL q k) m x) = it (dirL q k) m (ap (invL q) x) := by
  have h1 : ∀ {x : Int}, Sq n x → ap (invL q) (ap (dirL q k) x) = ap (dirL q k) (ap (invL q) x) := fun {x} hx => by
    unfold dirL; split
    · rfl
    · rw [Q.inv_ap hx, Q.ap_inv hx]
  intro m
  induction m with
  | zero => intro x _; rfl
  | succ m ih =>
    intro x hx
    rw [it_succ, h1 ((dirL_perm Q k).its hx m), ih hx, it_succ]
/-- The origami in the basis of which the second vector was the first, sheared by k. -/
def twO (o : Ori) (k : Int) : Ori := (thenK o.2 o.1 k, invL o.1)
def turnO (o : Ori) : Ori := (invL o.1, invL o.2)
theorem valid_perm {o : Ori} {n : Nat} (h0 : 0 < n) (h1 : n ≤ 60) (P : Perm o.1 n) (Q : Perm o.2 n) : Valid o := by
  have e1 := P.ln; have e2 := Q.ln
  refine valid_of ?_
  unfold chkO
  rw [if_neg (by omega), if_neg (by omega), if_neg (by
    have : chkL o.1 o.1.length = 0 := chkL_zero.2 ⟨by rw [e1]; exact P.rg, P.nd⟩
    omega)]
  exact chkL_zero.2 ⟨by rw [e1]; exact Q.rg, Q.nd⟩
theorem twO_perm {o : Ori} (v : Valid o) (k : Int) : Perm (twO o k).1 o.1.length ∧ Perm (twO o k).2 o.1.length := ⟨thenN_perm v.pU (dirL_perm v.pR k) _, v.pR.inv⟩
theorem twO_valid {o : Ori} (v : Valid o) (k : Int) : Valid (twO o k) ∧ (twO o k).1.length = o.1.length :=
  ⟨valid_perm v.pos v.le (twO_perm v k).1 (twO_perm v k).2, (twO_perm v k).1.ln⟩
theorem turnO_valid {o : Ori} (v : Valid o) : Valid (turnO o) ∧ (turnO o).1.length = o.1.length :=
  ⟨valid_perm v.pos v.le v.pR.inv v.pU.inv, v.pR.inv.ln⟩
theorem comm_ap {o : Ori} {x : Int} (hx : Sq o.1.length x) : ap (comm o) x = ap o.2 (ap o.1 (ap (invL o.2) (ap (invL o.1) x))) := comm_at hx.1 hx.2
theorem twO_strat {o : Ori} (v : Valid o) (k : Int) : stratL (twO o k) = stratL o := by
  obtain ⟨v', hn⟩ := twO_valid v k
  have R := v.pR; have U := v.pU
  have D := dirL_perm R k
  refine strat_conj v v' hn (f := thenK (invL o.1) o.1 k) (thenN_perm R.inv D _) fun x hx => ?_
  have hL := R.inv.aps hx
  have hz := U.inv.aps hL
  have hU' := (twO_perm v k).1
  have hf : ∀ {y}, Sq o.1.length y → ap (thenK (invL o.1) o.1 k) y = it (dirL o.1 k) k.natAbs (ap (invL o.1) y) := fun hy => thenN_ap R.inv D hy _
  have hUp : ∀ {y}, Sq o.1.length y → ap (twO o k).1 y = it (dirL o.1 k) k.natAbs (ap o.2 y) := fun hy => thenN_ap U D hy _
  have hfx : Sq o.1.length (ap (thenK (invL o.1) o.1 k) x) := by rw [hf hx]; exact D.its hL _
  have e1 : ap (thenK (invL o.1) o.1 k) x = ap (twO o k).1 (ap (invL o.2) (ap (invL o.1) x)) := by rw [hf hx, hUp hz, U.ap_inv hL]
  have hRz := R.aps hz
  rw [comm_ap (by rw [hn]; exact hfx), e1, hU'.inv_ap hz]
  have e2 : ap (invL (twO o k).2) (ap (invL o.2) (ap (invL o.1) x)) = ap o.1 (ap (invL o.2) (ap (invL o.1) x)) := by
    have := R.inv.inv_ap (x := ap o.1 (ap (invL o.2) (ap (invL o.1) x))) hRz
    rw [R.inv_ap hz] at this
    exact this
  rw [e2, hUp hRz]
  show ap (invL o.1) _ = _
  rw [it_inv R k _ (U.aps hRz), comm_ap hx, hf (U.aps hRz)]
theorem turnO_strat {o : Ori} (v : Valid o) : stratL (turnO o) = stratL o := by
  obtain ⟨v', hn⟩ := turnO_valid v
  have R := v.pR; have U := v.pU
  refine strat_conj v v' hn (f := thenL (invL o.1) (invL o.2)) (R.inv.then U.inv) fun x hx => ?_
  have hL := R.inv.aps hx
  have hz := U.inv.aps hL
  have hc := v.pC.aps hx
  rw [ap_then R.inv hx, ap_then R.inv hc, comm_ap (by rw [hn]; exact hz)]
  have e1 : ap (invL (turnO o).1) (ap (invL o.2) (ap (invL o.1) x)) = ap o.1 (ap (invL o.2) (ap (invL o.1) x)) := by
    have := R.inv.inv_ap (x := ap o.1 (ap (invL o.2) (ap (invL o.1) x))) (R.aps hz)
    rw [R.inv_ap hz] at this; exact this
  have hRz := R.aps hz
  have e2 : ap (invL (turnO o).2) (ap o.1 (ap (invL o.2) (ap (invL o.1) x))) = ap o.2 (ap o.1 (ap (invL o.2) (ap (invL o.1) x))) := by
    have := U.inv.inv_ap (x := ap o.2 (ap o.1 (ap (invL o.2) (ap (invL o.1) x)))) (U.aps hRz)
    rw [U.inv_ap hRz] at this; exact this
  rw [e1, e2]
  show ap (invL o.2) (ap (invL o.1) _) = _
  rw [comm_ap hx]

/-! ### Division -/
/-- a by b, rounded down. -/
def flo (a b : Int) : Int := if a.tmod b ≠ 0 ∧ (a < 0) ≠ (b < 0) then a.tdiv b - 1 else a.tdiv b
theorem tmod_facts (a : Int) {b : Int} (hb : b ≠ 0) : a = b * a.tdiv b + a.tmod b ∧ a.tmod b < b.natAbs ∧ -(b.natAbs : Int) < a.tmod b ∧ (0 ≤ a → 0 ≤ a.tmod b) ∧ (a ≤ 0 → a.tmod b ≤ 0) := by
  have h1 := Int.mul_tdiv_add_tmod a b
  have key : ∀ {x : Int}, 0 ≤ x → 0 ≤ x.tmod b ∧ x.tmod b < b.natAbs := fun {x} hx => ⟨Int.tmod_nonneg b hx, by
    rw [Int.tmod_eq_emod_of_nonneg hx]
    exact Int.emod_lt x hb⟩
  rcases Int.le_total 0 a with h | h
  · have := key h
    exact ⟨by omega, this.2, by omega, fun _ => this.1, fun h2 => by (obtain rfl : a = 0 := by omega); simp⟩
  · have := key (x := -a) (by omega)
    rw [Int.neg_tmod] at this
    exact ⟨by omega, by omega, by omega, fun h2 => by (obtain rfl : a = 0 := by omega); simp, fun _ => by omega⟩
theorem flo_spec (a : Int) {b : Int} (hb : b ≠ 0) : (0 < b → 0 ≤ a - flo a b * b ∧ a - flo a b * b < b) ∧ (b < 0 → a - flo a b * b ≤ 0 ∧ b < a - flo a b * b) := by
  obtain ⟨h1, h2, h3, h4, h5⟩ := tmod_facts a hb
  have e0 : a.tdiv b * b = b * a.tdiv b := Int.mul_comm _ _
  have e1 : (a.tdiv b - 1) * b = b * a.tdiv b - b := by rw [Int.sub_mul, Int.one_mul, e0]
  unfold flo
  split
  · rename_i h
    obtain ⟨h6, h7⟩ := h
    rw [e1]
    refine ⟨fun hp => ?_, fun hp => ?_⟩
    · have : a < 0 := Classical.byContradiction fun hh => h7 (propext ⟨fun k => absurd k hh, fun k => by omega⟩)
      have := h5 (by omega); omega
    · have : ¬ a < 0 := fun hh => h7 (propext ⟨fun _ => hp, fun _ => hh⟩)
      have := h4 (by omega); omega
  · rename_i h
    rw [e0]
    refine ⟨fun hp => ?_, fun hp => ?_⟩
    · by_cases h6 : a.tmod b = 0
      · omega
      · have : ¬ a < 0 := fun hh => h ⟨h6, fun e => by have := e ▸ hh; omega⟩
        have := h4 (by omega); omega
    · by_cases h6 : a.tmod b = 0
      · omega
      · have : a < 0 := Classical.byContradiction fun hh => h ⟨h6, fun e => hh (e ▸ hp)⟩
        have := h5 (by omega); omega
theorem flo_uniq {b k l a : Int} (h1 : 0 < b → 0 ≤ a - k * b ∧ a - k * b < b) (h2 : b < 0 → a - k * b ≤ 0 ∧ b < a - k * b) (h3 : 0 < b → 0 ≤ a - l * b ∧ a - l * b < b) (h4 : b < 0 → a - l * b ≤ 0 ∧ b < a - l * b) (hb : b ≠ 0) : k = l := by
  have key : ∀ {k l : Int}, k < l → (0 < b → k * b + b ≤ l * b) ∧ (b < 0 → l * b ≤ k * b + b) := fun {k l} h => by
    refine ⟨fun hb => ?_, fun hb => ?_⟩
    · have := Int.mul_le_mul_of_nonneg_right (show k + 1 ≤ l by omega) (show 0 ≤ b by omega)
      rw [Int.add_mul, Int.one_mul] at this; exact this
    · have := Int.mul_le_mul_of_nonpos_right (show k + 1 ≤ l by omega) (show b ≤ 0 by omega)
      rw [Int.add_mul, Int.one_mul] at this; exact this
  rcases Int.lt_trichotomy k l with h | h | h
  · have := key h; rcases Int.lt_or_gt_of_ne hb with h5 | h5
    · have := this.2 h5; have := h2 h5; have := h4 h5; omega
    · have := this.1 h5; have := h1 h5; have := h3 h5; omega
  · exact h
  · have := key h; rcases Int.lt_or_gt_of_ne hb with h5 | h5
    · have := this.2 h5; have := h2 h5; have := h4 h5; omega
    · have := this.1 h5; have := h1 h5; have := h3 h5; omega
/-- The reference's quotient. -/
theorem flo_ref (a : Int) {b : Int} (hb : b ≠ 0) : flo a b = if b < 0 then (-a) / (-b) else a / b.natAbs := by
  obtain ⟨h1, h2⟩ := flo_spec a hb
  refine flo_uniq h1 h2 (fun hp => ?_) (fun hp => ?_) hb
  · rw [if_neg (by omega), show ((b.natAbs : Nat) : Int) = b by omega]
    have := Int.emod_nonneg a hb; have := Int.emod_lt_of_pos a hp; have := Int.mul_ediv_add_emod a b
    have : a / b * b = b * (a / b) := Int.mul_comm _ _
    omega
  · rw [if_pos hp]
    have := Int.emod_nonneg (-a) (show -b ≠ 0 by omega); have := Int.emod_lt_of_pos (-a) (show 0 < -b by omega); have := Int.mul_ediv_add_emod (-a) (-b)
    have e : -a / -b * b = -(-b * (-a / -b)) := by rw [Int.mul_comm, Int.neg_mul, Int.neg_neg]
    omega
theorem flo_less (a : Int) {b : Int} (hb : b ≠ 0) : (flo a b * b - a).natAbs < b.natAbs := by
  obtain ⟨h1, h2⟩ := flo_spec a hb
  rcases Int.lt_or_gt_of_ne hb with h | h
  · have := h2 h; omega
  · have := h1 h; omega
theorem flo_bd {a b : Int} (_hb : b ≠ 0) : -(a.natAbs : Int) - 1 ≤ flo a b ∧ flo a b ≤ a.natAbs := by
  have h1 : (a.tdiv b).natAbs ≤ a.natAbs := by rw [Int.natAbs_tdiv]; exact Nat.div_le_self _ _
  unfold flo
  split
  · omega
  · omega

/-! ### The whole way -/
def twF : Nat → Ori → Int → Int → Ori
  | 0, o, _, _ => o
  | m + 1, o, p, q => if q = 0 then (if p < 0 then turnO o else o) else twF m (twO o (flo p q)) q (flo p q * q - p)
theorem twF_fuel : ∀ {m : Nat} {l : Nat} {o : Ori} {p q : Int}, q.natAbs < m → q.natAbs < l → twF m o p q = twF l o p q
  | m + 1, l + 1, o, p, q, h1, h2 => by
    rw [twF, twF]
    split
    · rfl
    · rename_i hq
      have := flo_less p hq
      exact twF_fuel (by omega) (by omega)
  | 0, _, _, _, _, h, _ => by omega
  | _, 0, _, _, _, _, h => by omega
def tw (o : Ori) (p q : Int) : Ori := twF (q.natAbs + 1) o p q
theorem tw_end {o : Ori} {p : Int} : tw o p 0 = if p < 0 then turnO o else o := by unfold tw; rw [twF, if_pos rfl]
theorem tw_next {o : Ori} {p q : Int} (hq : q ≠ 0) : tw o p q = tw (twO o (flo p q)) q (flo p q * q - p) := by
  unfold tw
  rw [twF, if_neg hq]
  have := flo_less p hq
  exact twF_fuel (by omega) (by omega)
theorem tw_ok : ∀ (m : Nat) {o : Ori} {p q : Int}, q.natAbs ≤ m → Valid o → Valid (tw o p q) ∧ (tw o p q).1.length = o.1.length ∧ stratL (tw o p q) = stratL o := by
  intro m
  induction m with
  | zero =>
    intro o p q h v
    obtain rfl : q = 0 := by omega
    rw [tw_end]
    split
    · exact ⟨(turnO_valid v).1, (turnO_valid v).2, turnO_strat v⟩
    · exact ⟨v, rfl, rfl⟩
  | succ m ih =>
    intro o p q h v
    by_cases hq : q = 0
    · subst hq; exact ih (by simp) v
    · rw [tw_next hq]
      have := flo_less p hq
      obtain ⟨v', hn⟩ := twO_valid v (flo p q)
      obtain ⟨h1, h2, h3⟩ := ih (o := twO o (flo p q)) (p := q) (q := flo p q * q - p) (by omega) v'
      exact ⟨h1, h2.trans hn, h3.trans (twO_strat v _)⟩
theorem gcd_next {p q : Int} (k : Int) : Int.gcd q (k * q - p) = Int.gcd p q := by
  rw [show k * q - p = -(p - k * q) by omega, Int.gcd_neg, Int.gcd_comm q, show p - k * q = p + q * (-k) by rw [Int.mul_neg, Int.mul_comm]; omega, Int.gcd_add_mul_left_left]
end Go.Fl

/- Labels of origamis. Plain Lean, no program in sight. -/
namespace Go.Fl

/-! ### The number of each square in the search -/
def numN (n : Nat) (l : List Int) : List Int := tab n (fun i : Nat => atL l i)
def numL (o : Ori) (s : Int) : List Int := numN o.1.length (reach o s)
theorem atL_in {l m : List Int} {x : Int} (h : x ∈ l) : atL (l ++ m) x = atL l x := by
  unfold atL
  rw [if_pos h, if_pos (List.mem_append_left _ h), List.idxOf_append, if_pos h]
theorem atL_new {l : List Int} {x : Int} (h : x ∉ l) : atL (l ++ [x]) x = l.length := by
  unfold atL
  rw [if_pos (by simp), List.idxOf_append, if_neg h]; simp
theorem atL_other {l : List Int} {x y : Int} (h : y ≠ x) : atL (l ++ [x]) y = atL l y := by
  by_cases hy : y ∈ l
  · exact atL_in hy
  · have h2 : y ∉ l ++ [x] := by simp [hy, h]
    unfold atL; rw [if_neg hy, if_neg h2]
theorem numN_len {n : Nat} {l : List Int} : (numN n l).length = n := tab_len
theorem nth_numN {n : Nat} {l : List Int} {x : Int} (h : Sq n x) : nth (numN n l) x.toNat = atL l x := by
  unfold numN
  rw [nth_tab (by have := h.1; have := h.2; omega), show ((x.toNat : Nat) : Int) = x by have := h.1; omega]
theorem numN_set {n : Nat} {l : List Int} {x : Int} (h : 0 ≤ x) (hx : x ∉ l) : (numN n l).set x.toNat (l.length : Int) = numN n (l ++ [x]) := by
  unfold numN
  rw [tab_set]
  refine tab_congr fun j _ => ?_
  by_cases e : j = x.toNat
  · rw [if_pos e, show ((j : Nat) : Int) = x by omega, atL_new hx]
  · rw [if_neg e, atL_other (by omega)]
theorem numN_start {n : Nat} {s : Int} (h : 0 ≤ s) : (List.replicate n (-1 : Int)).set s.toNat 0 = numN n [s] := by
  have : List.replicate n (-1 : Int) = numN n [] := by
    rw [tab_rep]; unfold numN
    exact tab_congr fun j _ => by simp [atL]
  rw [this]
  exact numN_set (l := []) h (by simp)
theorem numN_new {n : Nat} {l : List Int} {x : Int} (h : Sq n x) : nth (numN n l) x.toNat < 0 ↔ x ∉ [] ++ l := by rw [nth_numN h, atL_neg]; simp
theorem numL_rng {o : Ori} (v : Valid o) (c : Conn o) {s : Int} (hs : Sq o.1.length s) : inR (numL o s) o.1.length := fun i hi => by
  have hi' : i < o.1.length := by rwa [numL, numN_len] at hi
  have hm := c.all v hs (Sq.nat hi')
  have := atL_rng hm
  rw [numL, numN, nth_tab hi']
  have h2 := c.len v hs
  omega
theorem numL_len {o : Ori} {s : Int} : (numL o s).length = o.1.length := numN_len
/-- The reference numbers in the same way. -/
theorem invA_reach {o : Ori} (v : Valid o) (c : Conn o) {s : Int} (hs : Sq o.1.length s) : invA (reach o s) = numL o s := by
  unfold invA numL numN; rw [c.len v hs]

/-! ### Renumbered -/
def renTo (p f : List Int) (k : Nat) : List Int := (List.range k).foldl (fun out i => out.set (nth f i).toNat (nth f (nth p i).toNat)) (List.replicate f.length 0)
theorem renTo_succ {p f : List Int} {k : Nat} : renTo p f (k + 1) = (renTo p f k).set (nth f k).toNat (nth f (nth p k).toNat) := by simp [renTo, List.range_succ]
theorem renTo_zero {p f : List Int} : renTo p f 0 = List.replicate f.length 0 := rfl
theorem renTo_len {p f : List Int} : ∀ {k : Nat}, (renTo p f k).length = f.length
  | 0 => by simp [renTo]
  | k + 1 => by rw [renTo_succ, List.length_set, renTo_len]
def renL (o : Ori) (f : List Int) : Ori := (renTo o.1 f f.length, renTo o.2 f f.length)

/-! ### Comparing -/
def cmpI : List Int → List Int → Int
  | [], [] => 0
  | [], _ :: _ => -1
  | _ :: _, [] => 1
  | x :: a, y :: b => if x < y then -1 else if y < x then 1 else cmpI a b
def cmpO (a b : Ori) : Int := if cmpI a.1 b.1 ≠ 0 then cmpI a.1 b.1 else cmpI a.2 b.2
def lessL : List Int → List Int → Bool
  | x :: a, y :: b => if x ≠ y then decide (x < y) else lessL a b
  | _, _ => false
theorem cmpI_self : ∀ (a : List Int), cmpI a a = 0
  | [] => rfl
  | x :: a => by rw [cmpI, if_neg (by omega), if_neg (by omega), cmpI_self]
theorem cmpO_self (a : Ori) : cmpO a a = 0 := by unfold cmpO; rw [cmpI_self, cmpI_self]; rfl
theorem cmpI_less : ∀ {a b : List Int}, a.length = b.length → (decide (cmpI a b < 0)) = lessL a b
  | [], [], _ => rfl
  | x :: a, y :: b, h => by
    rw [cmpI, lessL]
    have := cmpI_less (a := a) (b := b) (by simpa using h)
    by_cases h1 : x < y
    · rw [if_pos h1, if_pos (by omega), decide_eq_true h1]; rfl
    · rw [if_neg h1]
      by_cases h2 : y < x
      · rw [if_pos h2, if_pos (by omega), decide_eq_false h1]; rfl
      · rw [if_neg h2, if_neg (by omega)]; exact this
  | [], _ :: _, h => by simp at h
  | _ :: _, [], h => by simp at h
theorem cmpI_zero : ∀ {a b : List Int}, cmpI a b = 0 → a = b
  | [], [], _ => rfl
  | x :: a, y :: b, h => by
    rw [cmpI] at h
    split at h
    · omega
    · split at h
      · omega
      · rw [cmpI_zero h, show x = y by omega]
  | [], _ :: _, h => by simp [cmpI] at h
  | _ :: _, [], h => by simp [cmpI] at h
theorem lessL_app : ∀ {a b c d : List Int}, a.length = b.length → lessL (a ++ c) (b ++ d) = if a = b then lessL c d else lessL a b
  | [], [], _, _, _ => by simp
  | x :: a, y :: b, c, d, h => by
    simp only [List.cons_append, lessL]
    have := lessL_app (a := a) (b := b) (c := c) (d := d) (by simpa using h)
    by_cases h1 : x ≠ y
    · rw [if_pos h1, if_pos h1, if_neg (by simp [h1])]
    · rw [if_neg h1, if_neg h1, this]
      have : x = y := Classical.not_not.1 h1
      subst this
      by_cases h2 : a = b
      · rw [if_pos h2, if_pos (by rw [h2])]
      · rw [if_neg h2, if_neg (by simp [h2])]
  | [], _ :: _, _, _, h => by simp at h
  | _ :: _, [], _, _, h => by simp at h
theorem cmpO_less {a b : Ori} (h1 : a.1.length = b.1.length) (h2 : a.2.length = b.2.length) : decide (cmpO a b < 0) = lessL (a.1 ++ a.2) (b.1 ++ b.2) := by
  rw [lessL_app h1]
  unfold cmpO
  by_cases e : a.1 = b.1
  · rw [if_pos e, e, cmpI_self]; simp only [ne_eq, not_true_eq_false, if_false]; exact cmpI_less h2
  · rw [if_neg e, if_pos (fun k => e (cmpI_zero k))]; exact cmpI_less h1
/-- lessL by places. -/
theorem lessL_at : ∀ {a b : List Int} {k : Nat}, a.length = b.length → k < a.length → (∀ i, i < k → nth a i = nth b i) → nth a k ≠ nth b k → lessL a b = decide (nth a k < nth b k)
  | x :: a, y :: b, 0, h, _, _, h2 => by
    rw [lessL]; exact if_pos h2
  | x :: a, y :: b, k + 1, h, hk, h1, h2 => by
    rw [lessL, if_neg (by have := h1 0 (by omega); exact fun hh => hh this)]
    exact lessL_at (a := a) (b := b) (k := k) (by simpa using h) (by simpa using hk) (fun i hi => h1 (i + 1) (by omega)) h2
  | [], [], _, _, h, _, _ => by simp at h
  | [], _ :: _, _, h, _, _, _ => by simp at h
  | _ :: _, [], _, h, _, _, _ => by simp at h
theorem lessL_same {a b : List Int} (h : a.length = b.length) (k : ∀ i, i < a.length → nth a i = nth b i) : lessL a b = false := by
  rw [ext_nth h k, ← cmpI_less rfl, cmpI_self]; rfl
theorem cmpI_at : ∀ {a b : List Int} {k : Nat}, k < a.length → k < b.length → (∀ i, i < k → nth a i = nth b i) → nth a k ≠ nth b k → cmpI a b = if nth a k < nth b k then -1 else 1
  | x :: a, y :: b, 0, _, _, _, h2 => by
    rw [cmpI, show nth (x :: a) 0 = x from rfl, show nth (y :: b) 0 = y from rfl]
    split
    · rfl
    · rw [if_pos]; rw [show nth (x :: a) 0 = x from rfl, show nth (y :: b) 0 = y from rfl] at h2; omega
  | x :: a, y :: b, k + 1, ha, hb, h1, h2 => by
    have e : x = y := h1 0 (by omega)
    subst e
    rw [cmpI, if_neg (by omega), if_neg (by omega)]
    exact cmpI_at (a := a) (b := b) (k := k) (by simpa using ha) (by simpa using hb) (fun i hi => h1 (i + 1) (by omega)) h2
  | [], _, _, h, _, _, _ => by simp at h
  | _ :: _, [], _, _, h, _, _ => by simp at h
theorem cmpI_end : ∀ {a b : List Int}, (∀ i, i < a.length → i < b.length → nth a i = nth b i) → cmpI a b = if a.length < b.length then -1 else if b.length < a.length then 1 else 0
  | [], [], _ => rfl
  | [], _ :: _, _ => by rw [cmpI, if_pos (by simp)]
  | _ :: _, [], _ => by rw [cmpI, if_neg (by simp), if_pos (by simp)]
  | x :: a, y :: b, h => by
    have e : x = y := h 0 (by simp) (by simp)
    subst e
    rw [cmpI, if_neg (by omega), if_neg (by omega), cmpI_end (a := a) (b := b) (fun i h1 h2 => h (i + 1) (by simpa using h1) (by simpa using h2))]
    simp only [List.length_cons, Nat.add_lt_add_iff_right]

/-! ### The label -/
def candO (o : Ori) (s : Nat) : Ori := renL o (numL o s)
def lblS (o : Ori) : Nat → Nat
  | 0 => 0
  | k + 1 => if cmpO (candO o k) (candO o (lblS o k)) < 0 then k else lblS o k
theorem lblS_lt {o : Ori} : ∀ {k : Nat}, 0 < k → lblS o k < k
  | 1, _ => by rw [lblS]; split <;> simp [lblS]
  | k + 2, _ => by
    have := lblS_lt (o := o) (k := k + 1) (by omega)
    rw [lblS]; split <;> omega
def lblF (o : Ori) : List Int := numL o (lblS o o.1.length)
def lblO (o : Ori) : Ori := renL o (lblF o)
theorem candO_len {o : Ori} {s : Nat} : (candO o s).1.length = o.1.length ∧ (candO o s).2.length = o.1.length := by
  unfold candO renL
  exact ⟨by rw [renTo_len, numL_len], by rw [renTo_len, numL_len]⟩
theorem lbl_less {o : Ori} {k : Nat} : decide (cmpO (candO o k) (candO o (lblS o k)) < 0) = lessL ((candO o k).1 ++ (candO o k).2) ((candO o (lblS o k)).1 ++ (candO o (lblS o k)).2) :=
  cmpO_less (candO_len.1.trans candO_len.1.symm) (candO_len.2.trans candO_len.2.symm)
theorem lblS_pos {o : Ori} {k : Nat} (h : cmpO (candO o k) (candO o (lblS o k)) < 0) : lblS o (k + 1) = k := if_pos h
theorem lblS_neg {o : Ori} {k : Nat} (h : ¬ cmpO (candO o k) (candO o (lblS o k)) < 0) : lblS o (k + 1) = lblS o k := if_neg h
theorem lblS_one {o : Ori} : lblS o 1 = 0 := by
  rw [lblS, lblS, if_neg (by rw [cmpO_self]; omega)]
end Go.Fl

/- Maps between origamis. Plain Lean, no program in sight. -/
namespace Go.Fl

structure IsHom (a b : Ori) (f : List Int) : Prop where
  len : f.length = a.1.length
  rng : inR f b.1.length
  R : ∀ x, Sq a.1.length x → ap f (ap a.1 x) = ap b.1 (ap f x)
  U : ∀ x, Sq a.1.length x → ap f (ap a.2 x) = ap b.2 (ap f x)
theorem IsHom.sq {a b : Ori} {f : List Int} (h : IsHom a b f) {x : Int} (hx : Sq a.1.length x) : Sq b.1.length (ap f x) := h.rng _ (by have := h.len; have := hx.1; have := hx.2; omega)
/-- A connected origami is mapped in one way at most, when it is said where a square goes. -/
theorem hom_uniq {a b : Ori} (v : Valid a) (c : Conn a) {f g : List Int} (hf : IsHom a b f) (hg : IsHom a b g) {s : Int} (hs : Sq a.1.length s) (e : ap f s = ap g s) : f = g := by
  refine ext_nth (hf.len.trans hg.len.symm) fun i hi => ?_
  have hi' : i < a.1.length := by rw [← hf.len]; exact hi
  have := reach_min (G := fun x => ap f x = ap g x) v hs (fun x hx (k : ap f x = ap g x) => ⟨by show ap f _ = ap g _; rw [hf.R x hx, hg.R x hx, k], by show ap f _ = ap g _; rw [hf.U x hx, hg.U x hx, k]⟩) e _ (c.all v hs (Sq.nat hi'))
  simpa [ap] using this
open Classical in
noncomputable def homAt (a b : Ori) (s : Int) : Option (List Int) := if h : ∃ f, IsHom a b f ∧ ap f 0 = s then some (Classical.choose h) else none
theorem homAt_some {a b : Ori} (v : Valid a) (c : Conn a) {s : Int} {f : List Int} (h : IsHom a b f) (e : ap f 0 = s) : homAt a b s = some f := by
  have hex : ∃ f, IsHom a b f ∧ ap f 0 = s := ⟨f, h, e⟩
  unfold homAt
  rw [dif_pos hex]
  have := Classical.choose_spec hex
  have hp := v.pos
  exact congrArg some (hom_uniq v c this.1 h (s := 0) ⟨by omega, by omega⟩ (this.2.trans e.symm))
theorem homAt_none {a b : Ori} {s : Int} (h : ∀ f, IsHom a b f → ap f 0 ≠ s) : homAt a b s = none := by
  unfold homAt
  rw [dif_neg]
  rintro ⟨f, h1, h2⟩; exact h f h1 h2
theorem homAt_hom {a b : Ori} {s : Int} {f : List Int} (h : homAt a b s = some f) : IsHom a b f ∧ ap f 0 = s := by
  unfold homAt at h
  split at h
  · rename_i hex
    cases h
    exact Classical.choose_spec hex
  · cases h
/-- All maps, by where 0 goes. -/
noncomputable def mapsTo (a b : Ori) (k : Nat) : List (List Int) := (List.range k).filterMap fun s : Nat => homAt a b s
noncomputable def mapsL (a b : Ori) : List (List Int) := mapsTo a b b.1.length
theorem mapsTo_some {a b : Ori} {k : Nat} {f : List Int} (h : homAt a b k = some f) : mapsTo a b (k + 1) = mapsTo a b k ++ [f] := by
  unfold mapsTo; rw [List.range_succ, List.filterMap_append]; simp [h]
theorem mapsTo_none {a b : Ori} {k : Nat} (h : homAt a b k = none) : mapsTo a b (k + 1) = mapsTo a b k := by
  unfold mapsTo; rw [List.range_succ, List.filterMap_append]; simp [h]
theorem mapsTo_len {a b : Ori} {k : Nat} : (mapsTo a b k).length ≤ k := by
  have := List.length_filterMap_le (fun s : Nat => homAt a b s) (List.range k)
  simpa [mapsTo] using this
theorem mem_mapsL {a b : Ori} (v : Valid a) (c : Conn a) {f : List Int} : f ∈ mapsL a b ↔ IsHom a b f := by
  unfold mapsL mapsTo
  rw [List.mem_filterMap]
  constructor
  · rintro ⟨s, _, h⟩; exact (homAt_hom h).1
  · intro h
    have hp := v.pos
    obtain ⟨q1, q2⟩ := h.sq (x := 0) ⟨by omega, by omega⟩
    exact ⟨(ap f 0).toNat, List.mem_range.2 (by omega), homAt_some v c h (by omega)⟩
theorem mapsL_len {a b : Ori} {f : List Int} (h : f ∈ mapsL a b) : f.length = a.1.length := by
  unfold mapsL mapsTo at h
  obtain ⟨s, _, h⟩ := List.mem_filterMap.1 h
  exact (homAt_hom h).1.len

/-! ### The program: step by step along the search -/
structure MapSt (a b : Ori) (s : Int) (l f : List Int) : Prop where
  len : f.length = a.1.length
  inn : ∀ x, x ∈ l → Sq b.1.length (ap f x)
  out : ∀ x, Sq a.1.length x → x ∉ l → ap f x = -1
  hom : ∀ g, IsHom a b g → ap g 0 = s → ∀ x, x ∈ l → ap f x = ap g x
  zero : ap f 0 = s
  gd : Good a.1.length l
  has : 0 ∈ l
theorem ap_set {f : List Int} {x y z : Int} (hx : 0 ≤ x) (hy : Sq f.length y) : ap (f.set x.toNat z) y = if x = y then z else ap f y := by
  unfold ap
  rw [nth_set (by have := hy.1; have := hy.2; omega)]
  have := hy.1
  by_cases e : x = y
  · rw [if_pos e, if_pos (by rw [e])]
  · rw [if_neg e, if_neg (by omega)]
theorem MapSt.start {a b : Ori} (v : Valid a) {s : Int} (hs : Sq b.1.length s) : MapSt a b s [0] ((List.replicate a.1.length (-1 : Int)).set 0 s) := by
  have hp := v.pos
  have hl : (List.replicate a.1.length (-1 : Int)).length = a.1.length := by simp
  have h0 : ap ((List.replicate a.1.length (-1 : Int)).set 0 s) 0 = s := by
    have := ap_set (f := List.replicate a.1.length (-1 : Int)) (x := 0) (y := 0) (z := s) (by omega) ⟨by omega, by rw [hl]; omega⟩
    simpa using this
  refine ⟨by simp, fun x hx => ?_, fun x hx h => ?_, fun g hg e x hx => ?_, h0, ?_, by simp⟩
  · simp at hx; subst hx; rw [h0]; exact hs
  · have := ap_set (f := List.replicate a.1.length (-1 : Int)) (x := 0) (y := x) (z := s) (by omega) (by rw [hl]; exact hx)
    rw [if_neg (by simp at h; omega)] at this
    rw [show ((0 : Int)).toNat = 0 from rfl] at this
    rw [this]; unfold ap; exact nth_rep (by have := hx.1; have := hx.2; omega)
  · simp at hx; subst hx; rw [h0, e]
  · exact good1 (s := 0) ⟨by omega, by omega⟩
theorem MapSt.more {a b : Ori} {s y z : Int} {l f : List Int} (h : MapSt a b s l f) (hy : Sq a.1.length y) (hyl : y ∉ l) (hz : Sq b.1.length z) (hg : ∀ g, IsHom a b g → ap g 0 = s → ap g y = z) : MapSt a b s (l ++ [y]) (f.set y.toNat z) := by
  have hset : ∀ x, Sq a.1.length x → ap (f.set y.toNat z) x = if y = x then z else ap f x := fun x hx => ap_set hy.1 (by rw [h.len]; exact hx)
  refine ⟨by rw [List.length_set]; exact h.len, fun x hx => ?_, fun x hx hm => ?_, fun g h1 h2 x hx => ?_, ?_, h.gd.snoc hy.1 hy.2 hyl, List.mem_append_left _ h.has⟩
  · rcases List.mem_append.1 hx with hx | hx
    · rw [hset x (h.gd.rng x hx), if_neg (fun e => hyl (by rw [e]; exact hx))]; exact h.inn x hx
    · simp at hx; subst hx; rw [hset x hy, if_pos rfl]; exact hz
  · simp at hm
    rw [hset x hx, if_neg (fun e => hm.2 e.symm)]; exact h.out x hx hm.1
  · rcases List.mem_append.1 hx with hx | hx
    · rw [hset x (h.gd.rng x hx), if_neg (fun e => hyl (by rw [e]; exact hx))]; exact h.hom g h1 h2 x hx
    · simp at hx; subst hx; rw [hset x hy, if_pos rfl]; exact (hg g h1 h2).symm
  · rw [hset 0 (h.gd.rng 0 h.has), if_neg (fun e => hyl (by rw [e]; exact h.has))]; exact h.zero
/-- The steps from the first k squares that have been met, and i steps from the next, are kept. -/
def Kept (a b : Ori) (l f : List Int) (k i : Nat) : Prop := ∀ j q, j < l.length → q < 2 → (j < k ∨ j = k ∧ q < i) → nth (stp a (nth l j)) q ∈ l ∧ ap f (nth (stp a (nth l j)) q) = nth (stp b (ap f (nth l j))) q
theorem Kept.next {a b : Ori} {l f : List Int} {k : Nat} (h : Kept a b l f k 2) : Kept a b l f (k + 1) 0 := fun j q hj hq hh => h j q hj hq (by omega)
theorem Kept.same {a b : Ori} {l f : List Int} {k i : Nat} (h : Kept a b l f k i) (hm : nth (stp a (nth l k)) i ∈ l) (e : ap f (nth (stp a (nth l k)) i) = nth (stp b (ap f (nth l k))) i) : Kept a b l f k (i + 1) := fun j q hj hq hh => by
  by_cases e2 : j = k ∧ q = i
  · obtain ⟨rfl, rfl⟩ := e2; exact ⟨hm, e⟩
  · exact h j q hj hq (by omega)
theorem Kept.more {a b : Ori} {s : Int} {l f : List Int} {k i : Nat} (hst : MapSt a b s l f) (hk : k < l.length) (h : Kept a b l f k i) {y z : Int} (hy : Sq a.1.length y) (hyl : y ∉ l) (_hz : Sq b.1.length z) (ey : nth (stp a (nth l k)) i = y) (ez : nth (stp b (ap f (nth l k))) i = z) :
    Kept a b (l ++ [y]) (f.set y.toNat z) k (i + 1) := fun j q hj hq hh => by
  rw [List.length_append, List.length_singleton] at hj
  have hjl : j < l.length := by omega
  rw [nth_app_l hjl]
  have hset : ∀ x, Sq a.1.length x → ap (f.set y.toNat z) x = if y = x then z else ap f x := fun x hx => ap_set hy.1 (by rw [hst.len]; exact hx)
  have hjm := nth_mem hjl
  have hfx : ap (f.set y.toNat z) (nth l j) = ap f (nth l j) := by rw [hset _ (hst.gd.rng _ hjm), if_neg (fun e => hyl (by rw [e]; exact hjm))]
  rw [hfx]
  by_cases e2 : j = k ∧ q = i
  · obtain ⟨rfl, rfl⟩ := e2
    rw [ey, ez]
    exact ⟨by simp, by rw [hset y hy, if_pos rfl]⟩
  · obtain ⟨h1, h2⟩ := h j q hjl hq (by omega)
    refine ⟨List.mem_append_left _ h1, ?_⟩
    rw [hset _ (hst.gd.rng _ h1), if_neg (fun e => hyl (by rw [e]; exact h1))]; exact h2
theorem kept_hom {a b : Ori} (v : Valid a) (c : Conn a) {s : Int} {f : List Int} (hst : MapSt a b s (reach a 0) f) (h : Kept a b (reach a 0) f (reach a 0).length 0) : homAt a b s = some f := by
  have hp := v.pos
  have h0 : Sq a.1.length 0 := ⟨by omega, by omega⟩
  have hall : ∀ {x}, Sq a.1.length x → x ∈ reach a 0 := fun hx => c.all v h0 hx
  have key : ∀ x, Sq a.1.length x → ap f (ap a.1 x) = ap b.1 (ap f x) ∧ ap f (ap a.2 x) = ap b.2 (ap f x) := fun x hx => by
    obtain ⟨j, hj, e⟩ := List.getElem_of_mem (hall hx)
    have e' : nth (reach a 0) j = x := by rw [nth_of_get? (List.getElem?_eq_getElem hj)]; exact e
    have h1 := (h j 0 hj (by omega) (.inl hj)).2
    have h2 := (h j 1 hj (by omega) (.inl hj)).2
    rw [e'] at h1 h2
    exact ⟨h1, h2⟩
  refine homAt_some v c ⟨hst.len, fun i hi => ?_, fun x hx => (key x hx).1, fun x hx => (key x hx).2⟩ hst.zero
  have := hst.inn (i : Int) (hall (Sq.nat (by rw [← hst.len]; exact hi)))
  simpa [ap, Sq] using this
theorem hom_stp {a b : Ori} {g : List Int} (h : IsHom a b g) {x : Int} (hx : Sq a.1.length x) : ∀ {i : Nat}, i < 2 → ap g (nth (stp a x) i) = nth (stp b (ap g x)) i
  | 0, _ => h.R x hx
  | 1, _ => h.U x hx
theorem stp_nth_sq {o : Ori} (v : Valid o) {x : Int} (hx : Sq o.1.length x) {i : Nat} (hi : i < 2) : Sq o.1.length (nth (stp o x) i) := stp_sq v hx _ (nth_mem (by simpa [stp] using hi))
/-- A step that does not fit. -/
theorem map_clash {a b : Ori} {s : Int} {l f : List Int} {k i : Nat} (va : Valid a) (hst : MapSt a b s l f) (hk : k < l.length) (hi : i < 2) (h1 : ap f (nth (stp a (nth l k)) i) ≠ nth (stp b (ap f (nth l k))) i) (h2 : ap f (nth (stp a (nth l k)) i) ≠ -1) : homAt a b s = none := homAt_none fun g hg e => by
  have hkm := nth_mem hk
  have hx := hst.gd.rng _ hkm
  have hy := stp_nth_sq va hx hi
  have hym : nth (stp a (nth l k)) i ∈ l := Classical.byContradiction fun hh => h2 (hst.out _ hy hh)
  rw [hst.hom g hg e _ hym, hst.hom g hg e _ hkm] at h1
  exact h1 (hom_stp hg hx hi)

/-! ### The reference: rounds -/
def mtStep (a b : Ori) (f : List Int) (x : Nat) : List Int := if 0 ≤ nth f x then (f.set (ap a.1 x).toNat (ap b.1 (nth f x))).set (ap a.2 x).toNat (ap b.2 (nth f x)) else f
def mtTo (a b : Ori) (f : List Int) : Nat → List Int
  | 0 => f
  | x + 1 => mtStep a b (mtTo a b f x) x
def mtF (a b : Ori) (s : Int) : Nat → List Int
  | 0 => (List.replicate a.1.length (-1 : Int)).set 0 s
  | r + 1 => mtTo a b (mtF a b s r) a.1.length
structure MtSt (a b : Ori) (s : Int) (f : List Int) : Prop where
  len : f.length = a.1.length
  rng : ∀ x, Sq a.1.length x → ap f x = -1 ∨ Sq b.1.length (ap f x)
  yes : ∀ g, IsHom a b g → ap g 0 = s → ∀ x, Sq a.1.length x → 0 ≤ ap f x → ap f x = ap g x
  no : ∀ g, IsHom a b g → ap g 0 ≠ s → ∀ x, Sq a.1.length x → 0 ≤ ap f x → ap f x ≠ ap g x
theorem MtSt.start {a b : Ori} (v : Valid a) {s : Int} (hs : Sq b.1.length s) : MtSt a b s ((List.replicate a.1.length (-1 : Int)).set 0 s) := by
  have h := MapSt.start v hs
  have key : ∀ x, Sq a.1.length x → x ≠ 0 → ap ((List.replicate a.1.length (-1 : Int)).set 0 s) x = -1 := fun x hx e => h.out x hx (by simpa using e)
  refine ⟨h.len, fun x hx => ?_, fun g h1 h2 x hx h3 => ?_, fun g h1 h2 x hx h3 => ?_⟩
  · by_cases e : x = 0
    · subst e; rw [h.zero]; exact .inr hs
    · exact .inl (key x hx e)
  · by_cases e : x = 0
    · subst e; rw [h.zero, h2]
    · rw [key x hx e] at h3; omega
  · by_cases e : x = 0
    · subst e; rw [h.zero]; exact fun e => h2 e.symm
    · rw [key x hx e] at h3; omega
theorem mtStep_at {a b : Ori} (v : Valid a) {f : List Int} (hl : f.length = a.1.length) {x : Nat} (hx : x < a.1.length) (h : 0 ≤ nth f x) {y : Int} (hy : Sq a.1.length y) :
    ap (mtStep a b f x) y = if ap a.2 x = y then ap b.2 (nth f x) else if ap a.1 x = y then ap b.1 (nth f x) else ap f y := by
  unfold mtStep
  rw [if_pos h, ap_set (v.pU.aps (Sq.nat hx)).1 (by rw [List.length_set, hl]; exact hy), ap_set (v.pR.aps (Sq.nat hx)).1 (by rw [hl]; exact hy)]
theorem MtSt.step {a b : Ori} (v : Valid a) (w : Valid b) {s : Int} {f : List Int} (h : MtSt a b s f) {x : Nat} (hx : x < a.1.length) : MtSt a b s (mtStep a b f x) := by
  by_cases h0 : 0 ≤ nth f x
  · have hq : Sq b.1.length (nth f x) := by
      rcases h.rng x (Sq.nat hx) with e | e
      · simp only [ap, Int.toNat_natCast] at e; omega
      · simpa [ap] using e
    have hfx : ap f (x : Int) = nth f x := by simp [ap]
    have hxs : Sq a.1.length (x : Int) := Sq.nat hx
    have hat := fun {y} (hy : Sq a.1.length y) => mtStep_at (b := b) v h.len hx h0 hy
    refine ⟨by unfold mtStep; rw [if_pos h0]; simp [h.len], fun y hy => ?_, fun g h1 h2 y hy h3 => ?_, fun g h1 h2 y hy h3 => ?_⟩
    · rw [hat hy]
      split
      · exact .inr (w.pU.aps hq)
      · split
        · exact .inr (w.pR.aps hq)
        · exact h.rng y hy
    · have hg := h.yes g h1 h2 x hxs (by rw [hfx]; exact h0)
      rw [hfx] at hg
      rw [hat hy] at h3 ⊢
      split
      · rename_i e; rw [hg, ← h1.U x hxs, e]
      · split
        · rename_i e; rw [hg, ← h1.R x hxs, e]
        · rename_i e1 e2; rw [if_neg e1, if_neg e2] at h3; exact h.yes g h1 h2 y hy h3
    · have hg := h.no g h1 h2 x hxs (by rw [hfx]; exact h0)
      rw [hfx] at hg
      rw [hat hy] at h3 ⊢
      split
      · rename_i e; rw [← e, h1.U x hxs]; exact fun k => hg (w.pU.inj hq (h1.sq hxs) k)
      · split
        · rename_i e; rw [← e, h1.R x hxs]; exact fun k => hg (w.pR.inj hq (h1.sq hxs) k)
        · rename_i e1 e2; rw [if_neg e1, if_neg e2] at h3; exact h.no g h1 h2 y hy h3
  · unfold mtStep; rw [if_neg h0]; exact h
theorem MtSt.to {a b : Ori} (v : Valid a) (w : Valid b) {s : Int} {f : List Int} (h : MtSt a b s f) : ∀ {x : Nat}, x ≤ a.1.length → MtSt a b s (mtTo a b f x)
  | 0, _ => h
  | _ + 1, hx => MtSt.step v w (MtSt.to v w h (by omega)) (by omega)
theorem MtSt.all {a b : Ori} (v : Valid a) (w : Valid b) {s : Int} (hs : Sq b.1.length s) : ∀ {r : Nat}, MtSt a b s (mtF a b s r)
  | 0 => MtSt.start v hs
  | _ + 1 => MtSt.to v w (MtSt.all v w hs) (Nat.le_refl _)
/-- What is known stays known. -/
theorem mtStep_keep {a b : Ori} (v : Valid a) (w : Valid b) {s : Int} {f : List Int} (h : MtSt a b s f) {x : Nat} (hx : x < a.1.length) {y : Int} (hy : Sq a.1.length y) (h0 : 0 ≤ ap f y) : 0 ≤ ap (mtStep a b f x) y := by
  by_cases hn : 0 ≤ nth f x
  · have hq : Sq b.1.length (nth f x) := by
      rcases h.rng x (Sq.nat hx) with e | e
      · simp only [ap, Int.toNat_natCast] at e; omega
      · simpa [ap] using e
    rw [mtStep_at v h.len hx hn hy]
    split
    · exact (w.pU.aps hq).1
    · split
      · exact (w.pR.aps hq).1
      · exact h0
  · unfold mtStep; rw [if_neg hn]; exact h0
theorem mtTo_keep {a b : Ori} (v : Valid a) (w : Valid b) {s : Int} {f : List Int} (h : MtSt a b s f) {y : Int} (hy : Sq a.1.length y) {q : Nat} : ∀ {x : Nat}, q ≤ x → x ≤ a.1.length → 0 ≤ ap (mtTo a b f q) y → 0 ≤ ap (mtTo a b f x) y
  | 0, h1, _, h2 => by obtain rfl : q = 0 := by omega
                       exact h2
  | x + 1, h1, h3, h2 => by
    by_cases e : q = x + 1
    · subst e; exact h2
    · exact mtStep_keep v w (h.to v w (by omega)) (by omega) hy (mtTo_keep v w h hy (x := x) (by omega) (by omega) h2)
theorem mtTo_next {a b : Ori} (v : Valid a) (w : Valid b) {s : Int} {f : List Int} (h : MtSt a b s f) {x : Int} (hx : Sq a.1.length x) (h0 : 0 ≤ ap f x) : ∀ y ∈ stp a x, 0 ≤ ap (mtTo a b f a.1.length) y := fun y hy => by
  obtain ⟨n, rfl⟩ : ∃ n : Nat, x = n := ⟨x.toNat, by have := hx.1; omega⟩
  have hn : n < a.1.length := by have := hx.2; omega
  have hm := h.to v w (x := n) (by omega)
  have hk : 0 ≤ nth (mtTo a b f n) n := by
    have := mtTo_keep v w h hx (q := 0) (x := n) (by omega) (by omega) h0
    simpa [ap] using this
  have hq : Sq b.1.length (nth (mtTo a b f n) n) := by
    rcases hm.rng n hx with e | e
    · simp only [ap, Int.toNat_natCast] at e; omega
    · simpa [ap] using e
  have hys := stp_sq v hx y hy
  refine mtTo_keep v w h hys (q := n + 1) (x := a.1.length) (by omega) (Nat.le_refl _) ?_
  show 0 ≤ ap (mtStep a b (mtTo a b f n) n) y
  rw [mtStep_at v hm.len hn hk hys]
  simp only [stp, List.mem_cons, List.not_mem_nil, or_false] at hy
  split
  · exact (w.pU.aps hq).1
  · split
    · exact (w.pR.aps hq).1
    · rename_i e1 e2; rcases hy with e | e
      · exact absurd e.symm e2
      · exact absurd e.symm e1
theorem mtF_met {a b : Ori} (v : Valid a) (w : Valid b) {s : Int} (hs : Sq b.1.length s) : ∀ {r : Nat}, ∀ j, j ≤ r → j < (reach a 0).length → 0 ≤ ap (mtF a b s r) (nth (reach a 0) j)
  | 0, j, hj, hl => by
    obtain rfl : j = 0 := by omega
    have hp := v.pos
    obtain ⟨q, hq⟩ := bfsTo_pre' (o := a) (F := []) (s := 0) (Nat.zero_le a.1.length)
    rw [show reach a 0 = [0] ++ q from hq, nth_app_l (by simp)]
    show 0 ≤ ap _ 0
    rw [show mtF a b s 0 = (List.replicate a.1.length (-1 : Int)).set 0 s from rfl, (MapSt.start v hs).zero]; exact hs.1
  | r + 1, j, hj, hl => by
    have hp := v.pos
    have h0 : Sq a.1.length 0 := ⟨by omega, by omega⟩
    have ih := mtF_met v w hs (r := r)
    have hm := MtSt.all v w hs (r := r)
    have hq := fun i (hi : i < (reach a 0).length) => reach_sq v h0 (nth_mem hi)
    by_cases e : j ≤ r
    · exact mtTo_keep v w hm (hq j hl) (q := 0) (x := a.1.length) (by omega) (Nat.le_refl _) (ih j e hl)
    · obtain ⟨i, hi, h1⟩ := bfsTo_from (o := a) (F := []) (s := 0) (k := a.1.length) (i := j) (by omega) hl
      have hil : i < (reach a 0).length := by omega
      exact mtTo_next v w hm (hq i hil) (ih i (by omega) hil) _ h1
/-- The steps are kept. -/
def isMapB (a b : Ori) (f : List Int) : Bool := (List.range a.1.length).all fun x => decide (ap f (nth a.1 x) = ap b.1 (nth f x)) && decide (ap f (nth a.2 x) = ap b.2 (nth f x))
theorem isMapB_iff {a b : Ori} {f : List Int} (hl : f.length = a.1.length) (hr : inR f b.1.length) : isMapB a b f = true ↔ IsHom a b f := by
  unfold isMapB
  simp only [List.all_eq_true, List.mem_range, Bool.and_eq_true, decide_eq_true_eq]
  constructor
  · intro h
    have key : ∀ x, Sq a.1.length x → ap f (ap a.1 x) = ap b.1 (ap f x) ∧ ap f (ap a.2 x) = ap b.2 (ap f x) := fun x hx => h x.toNat (by have := hx.1; have := hx.2; omega)
    exact ⟨hl, hr, fun x hx => (key x hx).1, fun x hx => (key x hx).2⟩
  · intro h x hx
    have h1 := h.R x (Sq.nat hx); have h2 := h.U x (Sq.nat hx)
    simp only [ap, Int.toNat_natCast] at h1 h2 ⊢
    exact ⟨h1, h2⟩
theorem mtF_spec {a b : Ori} (v : Valid a) (c : Conn a) (w : Valid b) {s : Int} (hs : Sq b.1.length s) : inR (mtF a b s a.1.length) b.1.length ∧ homAt a b s = if isMapB a b (mtF a b s a.1.length) = true then some (mtF a b s a.1.length) else none := by
  have hp := v.pos
  have h0 : Sq a.1.length 0 := ⟨by omega, by omega⟩
  have hm := MtSt.all v w hs (r := a.1.length)
  have hdef : ∀ x, Sq a.1.length x → 0 ≤ ap (mtF a b s a.1.length) x := fun x hx => by
    obtain ⟨j, hj, e⟩ := List.getElem_of_mem (c.all v h0 hx)
    have e' : nth (reach a 0) j = x := by rw [nth_of_get? (List.getElem?_eq_getElem hj)]; exact e
    have := (reach_good v h0).len
    have := mtF_met v w hs (r := a.1.length) j (by omega) hj
    rwa [e'] at this
  have hr : inR (mtF a b s a.1.length) b.1.length := fun i hi => by
    have hi' : Sq a.1.length (i : Int) := Sq.nat (by rw [← hm.len]; exact hi)
    have h1 := hdef i hi'
    rcases hm.rng i hi' with e | e
    · omega
    · simpa [ap, Sq] using e
  refine ⟨hr, ?_⟩
  have hiff := isMapB_iff (a := a) (b := b) hm.len hr
  split
  · rename_i hh
    have hf := hiff.1 hh
    refine homAt_some v c hf (Classical.byContradiction fun e => ?_)
    exact hm.no _ hf e 0 h0 (hdef 0 h0) rfl
  · rename_i hh
    refine homAt_none fun g hg e => hh (hiff.2 ?_)
    have : mtF a b s a.1.length = g := ext_nth (hm.len.trans hg.len.symm) fun i hi => by
      have hi' : Sq a.1.length (i : Int) := Sq.nat (by rw [← hm.len]; exact hi)
      have := hm.yes g hg e i hi' (hdef i hi')
      simpa [ap] using this
    rw [this]; exact hg
end Go.Fl

/-
  DERIVED: THE SHELF's CONTRACTS AT THIS DUMP, IN PLAIN WORDS (tools/lay-plain.mjs out of 'YtphkjcmonjbpfaaMulRaw.lean', which tools/lay-shelf.mjs wrote): THE SAME DECLARATIONS UNDER THE SAME NAMES: 'import', 'namespace', 'open', 'def', 'theorem' AND NOTHING ELSE: no command of the shelf's: FOR A HAND-IN. Each laying: the table of numbers ('.._ren') and one theorem, a field a fact of the dump's own or the kernel's comparison; each contract: ONE APPLICATION.
-/
namespace Go.Proofs
open Go.Shelf
def Try.lays212_ren : Go.Shelf.Ren := ⟨fun | 212 => 125 | 263 => 141 | 264 => 142 | n => n, fun | 46 => 128 | 51 => 144 | 146 => 148 | 53 => 146 | 148 => 150 | n => n, fun | n => n⟩
theorem Try.lays212 : Go.Proofs.Lays.n212 Try.prog Try.lays212_ren := {
  mixed := by kernel_rfl
  f212 := Try.func125.trans (congrArg some (by kernel_rfl))
  f263 := Try.func141.trans (congrArg some (by kernel_rfl))
  f264 := Try.func142.trans (congrArg some (by kernel_rfl))
  t46 := Try.underlying128
  a46 := Try.isAgg128
  z46 := Try.sizeOf128
  v46 := Try.zeroValue128
  t51 := Try.underlying144
  a51 := Try.isAgg144
  z51 := Try.sizeOf144
  v51 := Try.zeroValue144
  t53 := Try.underlying146
  a53 := Try.isAgg146
  z53 := Try.sizeOf146
  v53 := Try.zeroValue146
  t146 := Try.underlying148
  a146 := Try.isAgg148
  z146 := Try.sizeOf148
  v146 := Try.zeroValue148
  t148 := Try.underlying150
  a148 := Try.isAgg150
  z148 := Try.sizeOf150
  v148 := Try.zeroValue150 }
end Go.Proofs

/- From the row's reading of the arguments to ours, and from a contract to the row's last step. -/
namespace Go.Fl
open Go Go.RowKit Go.ChangeShapes Go.WideShapes Go.ChangeAt
/-! ### 1. Arguments -/
def memJ (W : World) : JV := fun b o => W.cell? ⟨b, o, none⟩
theorem memJ_im (W : World) : Im (memJ W) W := fun _ _ _ h => h
/-- What the row reads, in our words; 'φ': what else is known of it. -/
structure RdT (P : Program) (t : TypeId) {α : Type} (e : Enc α) (φ : α → Prop) : Prop where
  imp : ∀ {H : Type} {enc : TypeId × Value → H} {W : World} {n : Nat} {cs : List Value} {x : DataW H × List MemPlace},
  DataW.trod enc P W 0 (fun _ => true) true n t cs = some x → (∀ m ∈ x.1.weights P t, m ≤ reachBytes) → ∃ a, e.rd (memJ W) cs a ∧ φ a
def AndP {α β : Type} (φ : α → Prop) (ψ : β → Prop) : α × β → Prop := fun x => φ x.1 ∧ ψ x.2
def UnitP : Unit → Prop := fun _ => True
def BoolP : Bool → Prop := fun _ => True
def StrP : ByteArray → Prop := fun s => s.size ≤ reachBytes
def ListP {α : Type} [Inhabited α] (φ : α → Prop) : List α → Prop := fun xs => xs.length ≤ reachBytes ∧ ∀ i, i < xs.length → φ (nth xs i)
def okI (k : IntKind) (n : Int) : Prop := (Lit.int k n).wf = true
theorem okI64 {n : Int} (h : okI .i64 n) : -9223372036854775808 ≤ n ∧ n ≤ 9223372036854775807 := by simpa [okI, Lit.wf, IntKind.min, IntKind.max, IntKind.signed, IntKind.bits] using h
theorem okI8 {n : Int} (h : okI .i8 n) : -128 ≤ n ∧ n ≤ 127 := by simpa [okI, Lit.wf, IntKind.min, IntKind.max, IntKind.signed, IntKind.bits] using h
theorem okU8 {n : Int} (h : okI .u8 n) : 0 ≤ n ∧ n ≤ 255 := by simpa [okI, Lit.wf, IntKind.min, IntKind.max, IntKind.signed, IntKind.bits] using h
theorem RdT.int {P : Program} {t : TypeId} {k : IntKind} [h : TyKind P t k] : RdT P t (eInt k) (okI k) := ⟨fun hx _ => by
  obtain ⟨n, rfl, rfl, hw⟩ := DataW.trod_int h.h hx
  exact ⟨n, rfl, hw⟩⟩
theorem RdT.bool {P : Program} {t : TypeId} [h : TyBool P t] : RdT P t eBool BoolP := ⟨fun hx _ => by
  obtain ⟨n, rfl, rfl⟩ := DataW.trod_bool h.h hx
  exact ⟨n, rfl, trivial⟩⟩
theorem RdT.str {P : Program} {t : TypeId} [h : TyString P t] : RdT P t eStr StrP := ⟨fun hx hw => by
  obtain ⟨s, rfl, rfl, _⟩ := DataW.trod_string h.h hx
  refine ⟨s, rfl, ?_⟩
  show s.size ≤ reachBytes
  have := hw s.data.toList.length (by simp [DataW.weights])
  simpa using this⟩
theorem weightsAll_mem {H : Type} {P : Program} {e : TypeId} {m : Nat} {d : DataW H} : ∀ {l : List (DataW H)}, d ∈ l → m ∈ d.weights P e → m ∈ DataW.weightsAll P e l
  | x :: r, hd, hm => by
    simp only [DataW.weightsAll, List.mem_append]
    rcases List.mem_cons.1 hd with rfl | hd
    · exact .inl hm
    · exact .inr (weightsAll_mem hd hm)
theorem RdT.slice {P : Program} {t et : TypeId} [ht : TySl P t et] {size bytes : Nat} {zz : Value} [hz : TySz P et size bytes zz] {α : Type} [Inhabited α] {e : Enc α} {φ : α → Prop} (h : RdT P et e φ) (hs : e.n = size) (hp : Nat.blt 0 size = true) (hb : Nat.blt 0 bytes = true) :
    RdT P t (eL e) (ListP φ) := ⟨fun {H enc W n cs x} hx hw => by
  obtain ⟨ti, hi, h1, h2, _⟩ := hz.h
  have hp' : 0 < size := by simpa [Nat.blt_eq] using hp
  have hb' : 0 < bytes := by simpa [Nat.blt_eq] using hb
  have hc : P.cellsOf et = size := by simp [Program.cellsOf, hi, h1]
  have hby : P.bytesOf et = bytes := by simp [Program.bytesOf, hi, h2]
  rcases DataW.trod_slice ht.h hx with ⟨rfl, rfl⟩ | ⟨a, len, cap, elems, rest, m, rfl, rfl, rfl, _, hlc, hcm, hl, hel, _, _⟩
  · exact ⟨[], rd_nil, Nat.zero_le _, fun i hi => by simp at hi⟩
  · simp only [DataW.weights, ht.h, List.mem_cons, List.mem_append] at hw
    have hlen : len ≤ reachBytes := by
      have := hw _ (.inl rfl)
      rw [hby] at this
      simp only [List.length_map] at this
      have h3 : elems.length + rest.length ≤ (elems.length + rest.length) * bytes := Nat.le_mul_of_pos_right _ hb'
      omega
    -- one by one
    have one : ∀ i, i < len → ∃ ds y, W.cells? 0 (a.add (i * size)) size = some ds ∧ e.rd (memJ W) ds y ∧ φ y := fun i hi => by
      have h4 := hel i hi
      rw [hc, List.getElem?_eq_getElem (by omega)] at h4
      cases hcs : W.cells? 0 (a.add (i * size)) size with
      | none => rw [hcs] at h4; simp at h4
      | some ds =>
        rw [hcs] at h4
        simp only [Option.bind_some] at h4
        obtain ⟨y, hy1, hy2⟩ := h.imp h4 (fun q hq => hw q (.inr (.inl (weightsAll_mem (List.mem_map.2 ⟨_, List.getElem_mem _, rfl⟩) hq))))
        exact ⟨ds, y, rfl, hy1, hy2⟩
    let f : Nat → α := fun i => if hi : i < len then (one i hi).choose_spec.choose else default
    have hf : ∀ i (hi : i < len), ∃ ds, W.cells? 0 (a.add (i * size)) size = some ds ∧ e.rd (memJ W) ds (f i) ∧ φ (f i) := fun i hi => by
      refine ⟨(one i hi).choose, ?_⟩
      simp only [f, dif_pos hi]
      exact (one i hi).choose_spec.choose_spec
    have hxl : ((List.range len).map f).length = len := by simp
    refine ⟨(List.range len).map f, ⟨some a, cap, by rw [hxl], by rw [hxl]; simp only [lenMax]; simp only [reachBytes] at hlen; omega, ?_⟩, by rw [hxl]; exact hlen, fun i hi => ?_⟩
    · by_cases h0 : len = 0
      · subst h0; exact .inl rfl
      · have hspot : a = ⟨a.block, a.off, none⟩ := by
          obtain ⟨ds, h5, _⟩ := hf 0 (by omega)
          obtain ⟨_, h6, h7⟩ := World.cells?_some h5
          have h8 := h7 0 hp'
          have h9 : ds[0]? = some (ds[0]'(by omega)) := List.getElem?_eq_getElem (by omega)
          rw [h9, Nat.zero_mul] at h8
          have ha : (a.add 0).add 0 = a := by simp [Addr.add]
          rw [ha] at h8
          unfold World.cell? at h8
          cases hsp : a.spot with
          | none => cases a; simp_all
          | some q => rw [hsp] at h8; simp at h8; split at h8 <;> simp at h8
        refine .inr ⟨a.block, a.off, by rw [← hspot], fun i y hy => ?_⟩
        have hi : i < len := by have := (List.getElem?_eq_some_iff.1 hy).1; omega
        rw [List.getElem?_map, List.getElem?_range hi] at hy
        simp only [Option.map_some, Option.some.injEq] at hy
        subst hy
        obtain ⟨ds, h5, h6, _⟩ := hf i hi
        refine ⟨ds, h6, fun j v hj => ?_⟩
        obtain ⟨_, h7, h8⟩ := World.cells?_some h5
        have hjl : j < size := by have := (List.getElem?_eq_some_iff.1 hj).1; omega
        have h9 := h8 j hjl
        rw [hj, hspot, Addr.add_lit, Addr.add_lit] at h9
        rw [hs]
        exact h9
    · rw [hxl] at hi
      obtain ⟨_, _, _, h6⟩ := hf i hi
      have h7 := nth_get (xs := (List.range len).map f) (i := i) (by rw [hxl]; exact hi)
      rw [List.getElem?_map, List.getElem?_range hi] at h7
      rw [← Option.some.inj h7]
      exact h6⟩
structure FldT (P : Program) (fs : List Field) (o : Nat) {α : Type} (e : Enc α) (φ : α → Prop) : Prop where
  imp : ∀ {H : Type} {enc : TypeId × Value → H} {W : World} {n : Nat} {cs : List Value} {xs : List (DataW H × List MemPlace)},
  (∀ (i : Nat) (f : Field), fs[i]? = some f → DataW.trod enc P W 0 (fun _ => true) true n f.type ((cs.drop (f.offset - o)).take (P.cellsOf f.type)) = xs[i]?) → xs.length = fs.length → cs.length = (fs.map fun f : Field => P.cellsOf f.type).sum →
    (∀ m ∈ DataW.weightsEach P (fs.map fun f : Field => f.type) (xs.map (·.1)), m ≤ reachBytes) → ∃ a, e.rd (memJ W) cs a ∧ φ a
theorem FldT.nil {P : Program} {o : Nat} : FldT P [] o eU UnitP := ⟨fun {H enc W n cs xs} _ _ hc _ => by
  simp at hc
  subst hc
  exact ⟨(), rfl, trivial⟩⟩
theorem FldT.cons {P : Program} {f : Field} {fs : List Field} {o size bytes : Nat} {zz : Value} {ft : TypeId} [hz : TySz P ft size bytes zz] {α β : Type} {e : Enc α} {e' : Enc β} {φ : α → Prop} {ψ : β → Prop} (h : RdT P ft e φ) (hft : f.type = ft) (ho : f.offset = o) (hge : (fs.all fun g => Nat.ble (o + size) g.offset) = true)
    (r : FldT P fs (o + size) e' ψ) : FldT P (f :: fs) o (eP e e') (AndP φ ψ) := ⟨fun {H enc W n cs xs} hx hl hc hw => by
  subst hft
  obtain ⟨ti, hi, h1, h2, _⟩ := hz.h
  have hcs : P.cellsOf f.type = size := by simp [Program.cellsOf, hi, h1]
  cases xs with
  | nil => simp at hl
  | cons x xs =>
    have h0 := hx 0 f rfl
    rw [ho, Nat.sub_self, List.drop_zero, hcs] at h0
    simp only [List.getElem?_cons_zero] at h0
    simp only [List.map_cons, DataW.weightsEach, List.mem_append] at hw
    simp only [List.map_cons, List.sum_cons, hcs] at hc
    obtain ⟨a, k1, k2⟩ := h.imp h0 (fun m hm => hw m (.inl hm))
    obtain ⟨b, k3, k4⟩ := r.imp (H := H) (enc := enc) (W := W) (n := n) (cs := cs.drop size) (xs := xs) (fun i g hg => by
      have := hx (i + 1) g (by simpa using hg)
      simp only [List.getElem?_cons_succ] at this
      rw [← this, List.drop_drop]
      have hb := Nat.le_of_ble_eq_true (List.all_eq_true.1 hge g (List.mem_of_getElem? hg))
      rw [show size + (g.offset - (o + size)) = g.offset - o by omega]) (by simpa using hl) (by rw [List.length_drop]; omega) (fun m hm => hw m (.inr hm))
    exact ⟨(a, b), ⟨cs.take size, cs.drop size, (List.take_append_drop _ _).symm, k1, k3⟩, k2, k4⟩⟩
theorem RdT.struct {P : Program} {t : TypeId} {fs : Array Field} {l : List Field} (hu : P.underlying t = some (.struct fs)) (hl : fs.toList = l) {α : Type} {e : Enc α} {φ : α → Prop} (hsz : P.cellsOf t = (l.map fun f : Field => P.cellsOf f.type).sum) (F : FldT P l 0 e φ) : RdT P t e φ := ⟨fun {H enc W n cs x} hx hw => by
  subst hl
  obtain ⟨xs, m, rfl, rfl, hc, hn, hf⟩ := DataW.trod_struct hu hx
  simp only [DataW.weights, hu] at hw
  exact F.imp (fun i f hf' => by rw [Nat.sub_zero]; exact hf i f (by simpa using hf')) (by simpa using hn) (hc.trans hsz) hw⟩
theorem RdT.conv {P : Program} {t : TypeId} {α β : Type} {e : Enc α} {φ : α → Prop} (h : RdT P t e φ) {e' : Enc β} (f : α → β) (hf : ∀ J cs a, e.rd J cs a → e'.rd J cs (f a)) {ψ : β → Prop} (hψ : ∀ a, φ a → ψ (f a)) : RdT P t e' ψ := ⟨fun hx hw => by
  obtain ⟨a, h1, h2⟩ := h.imp hx hw
  exact ⟨f a, hf _ _ _ h1, hψ _ h2⟩⟩
structure ArrT (P : Program) (et : TypeId) (k : Nat) {α : Type} (e : Enc α) (φ : α → Prop) : Prop where
  imp : ∀ {H : Type} {enc : TypeId × Value → H} {W : World} {n : Nat} {cs : List Value} {xs : List (DataW H × List MemPlace)},
  (∀ i, i < k → DataW.trod enc P W 0 (fun _ => true) true n et ((cs.drop (i * P.cellsOf et)).take (P.cellsOf et)) = xs[i]?) → xs.length = k → cs.length = k * P.cellsOf et → (∀ m ∈ DataW.weightsAll P et (xs.map (·.1)), m ≤ reachBytes) → ∃ a, e.rd (memJ W) cs a ∧ φ a
theorem ArrT.nil {P : Program} {et : TypeId} : ArrT P et 0 eU UnitP := ⟨fun {H enc W n cs xs} _ _ hc _ => by
  simp at hc
  subst hc
  exact ⟨(), rfl, trivial⟩⟩
theorem ArrT.cons {P : Program} {et : TypeId} {k : Nat} {α β : Type} {e : Enc α} {e' : Enc β} {φ : α → Prop} {ψ : β → Prop} (h : RdT P et e φ) (r : ArrT P et k e' ψ) : ArrT P et (k + 1) (eP e e') (AndP φ ψ) := ⟨fun {H enc W n cs xs} hx hl hc hw => by
  cases xs with
  | nil => simp at hl
  | cons x xs =>
    have h0 := hx 0 (by omega)
    rw [Nat.zero_mul, List.drop_zero] at h0
    simp only [List.getElem?_cons_zero] at h0
    simp only [List.map_cons, DataW.weightsAll, List.mem_append] at hw
    obtain ⟨a, k1, k2⟩ := h.imp h0 (fun m hm => hw m (.inl hm))
    obtain ⟨b, k3, k4⟩ := r.imp (H := H) (enc := enc) (W := W) (n := n) (cs := cs.drop (P.cellsOf et)) (xs := xs) (fun i hi => by
      have := hx (i + 1) (by omega)
      simp only [List.getElem?_cons_succ] at this
      rw [← this, List.drop_drop, Nat.succ_mul, Nat.add_comm]) (by simpa using hl) (by rw [List.length_drop, hc, Nat.succ_mul]; omega) (fun m hm => hw m (.inr hm))
    exact ⟨(a, b), ⟨cs.take (P.cellsOf et), cs.drop (P.cellsOf et), (List.take_append_drop _ _).symm, k1, k3⟩, k2, k4⟩⟩
theorem RdT.arr {P : Program} {t et : TypeId} {k : Nat} [ht : TyArr P t k et] {α : Type} {e : Enc α} {φ : α → Prop} (hsz : P.cellsOf t = k * P.cellsOf et) (F : ArrT P et k e φ) : RdT P t e φ := ⟨fun {H enc W n cs x} hx hw => by
  obtain ⟨xs, m, rfl, rfl, hc, hn, hf⟩ := DataW.trod_array ht.h hx
  simp only [DataW.weights, ht.h] at hw
  exact F.imp hf hn (hc.trans hsz) hw⟩
theorem not_ok_agg {P : Program} {W : World} {r : Reach} {base : Nat} {t : TypeId} {cs : Array Value} (h : Cell.ok P W r base t (.agg cs)) : False := by
  unfold Cell.ok at h
  revert h
  split <;> simp_all
/-- One argument, opened. -/
theorem RdT.val {P : Program} {t : TypeId} {α : Type} {e : Enc α} {φ : α → Prop} (h : RdT P t e φ) (hag : (match P.underlying t with | some (.struct _) | some (.array _ _) => true | _ => false) = e.agg) {H : Type} {enc : TypeId × Value → H} {W : World} {base : Nat} {v : Value} {d : DataW H} {ps : List MemPlace}
    (hv : Value.okWide P W .any base t v) (ht : DataW.Trod enc P W 0 (fun _ => true) true t v d ps) (hw : ∀ m ∈ d.weights P t, m ≤ reachBytes) : ∃ a, kRd e a ⟨memJ W, noM⟩ v ∧ φ a := by
  obtain ⟨n, hn⟩ := ht
  obtain ⟨a, h1, h2⟩ := h.imp hn hw
  refine ⟨a, ⟨_, h1, ?_⟩, h2⟩
  cases hb : e.agg with
  | true =>
    rw [hb] at hag
    unfold Value.okWide at hv
    split at hv
    · obtain ⟨cs, rfl, _⟩ := hv; simp [Value.cells]
    · obtain ⟨cs, rfl, _⟩ := hv; simp [Value.cells]
    · rename_i h3 h4
      exfalso
      revert hag
      split
      · rename_i fs hq; exact fun _ => h3 _ hq
      · rename_i q r hq; exact fun _ => h4 _ _ hq
      · intro hf; cases hf
  | false =>
    obtain ⟨h3, h4⟩ := e.one hb
    have hl := e.len h1
    rw [h3] at hl
    simp only [Bool.false_eq_true, if_false]
    cases v with
    | agg cs =>
      exfalso
      rw [hb] at hag
      unfold Value.okWide at hv
      split at hv
      · rename_i fs hq; rw [hq] at hag; cases hag
      · rename_i q r hq; rw [hq] at hag; cases hag
      · have : Cell.ok P W .any base t (.agg cs) := by
          unfold Cell.okWide at hv
          split at hv <;> first | (rename_i hq; cases hq; done) | exact hv
        exact not_ok_agg this
    | _ => simp [Value.cells]
end Go.Fl

/- The last step of a law's row. -/
namespace Go.Fl
open Go Go.RowKit Go.ChangeShapes Go.WideShapes Go.ChangeAt
def szB (P : Program) : Bool := (List.range P.types.size).all fun t => match P.underlying t with | some (.slice e) => Nat.blt 0 (P.cellsOf e) | _ => true
theorem szB_spec {P : Program} (h : szB P = true) {t e : TypeId} (ht : t < P.types.size) (hu : P.underlying t = some (.slice e)) : 0 < P.cellsOf e := by
  have := List.all_eq_true.1 h t (List.mem_range.2 ht)
  rw [hu] at this
  simpa [Nat.blt_eq] using this
section
variable {H : Type} {enc : TypeId × Value → H} {P : Program}
theorem trodAll_stays (hl : laidOutB P = true) (hm : mapsRowed P = true) (hz : szB P = true) {W W' : World} {sp : Nat → Bool} : ∀ {ts : List TypeId} {vs : List Value} {ds : List (DataW H)} {ps : List MemPlace}, (∀ t ∈ ts, t < P.types.size) → DataW.TrodAll enc P W 0 (fun _ => true) true ts vs ds ps →
    (∀ p ∈ ps, W.sameAt W' p) → (∀ p ∈ ps, sp p.block = true) → DataW.TrodAll enc P W' 0 sp true ts vs ds ps
  | [], [], [], ps, _, h, _, _ => h
  | t :: ts, v :: vs, d :: ds, ps, ht, h, hs, hp => by
    obtain ⟨p, q, ⟨n, hn⟩, h2, rfl⟩ := h
    refine ⟨p, q, ⟨n, ?_⟩, trodAll_stays hl hm hz (fun u hu => ht u (List.mem_cons_of_mem _ hu)) h2 (fun x hx => hs x (List.mem_append.2 (.inr hx))) (fun x hx => hp x (List.mem_append.2 (.inr hx))), rfl⟩
    exact DataW.trod_stays (kids_rows hl hm) (fun ht hu => szB_spec hz ht hu) (fun h => by cases h) (ht t List.mem_cons_self) hn (fun x hx => hs x (List.mem_append.2 (.inl hx))) (fun x hx => hp x (List.mem_append.2 (.inl hx)))
  | [], _ :: _, _, _, _, h, _, _ => h.elim
  | [], [], _ :: _, _, _, h, _, _ => h.elim
  | _ :: _, [], _, _, _, h, _, _ => h.elim
  | _ :: _, _ :: _, [], _, _, h, _, _ => h.elim
theorem law_post {f : Func} {s : ChangeSpec} {W W' : World} {args : Array Value} {ds gs : List (DataW H)} {before : List MemPlace} {tb : TypeId} (hl : laidOutB P = true) (hm : mapsRowed P = true) (hz : szB P = true) (hW : DataW.Whole enc P f.params.toList s.vars false W args.toList ds gs before)
    (hts : (f.params.toList.all fun t => Nat.blt t P.types.size) = true) (hv : s.vars = []) (hfn : gs = [] → s.fn H (ds ++ gs) = { results := [.lit (.bool true)], args := ds }) (hr : f.resultTypes = #[tb]) (hb : P.underlying tb = some .bool) (hbel : Below W.heap.size W W') :
    s.post enc P f false true false false W args (.bool true) W' := by
  have hW' := hW
  obtain ⟨p, q, hA, hV, rfl, _, _⟩ := hW
  rw [hv] at hV
  obtain ⟨rfl, rfl⟩ := trodVars_none hV
  simp only [List.append_nil] at hW'
  have hfn' := hfn rfl
  have hlt : ∀ x ∈ p, x.block < W.heap.size := fun x hx => hW'.lt x hx
  refine ⟨ds, [], p, [], p, [], hW', ?_, ?_, ?_, hbel.frame _, fun h => by cases h⟩
  · rw [hfn', hr]
    exact trodAll_mk1 (shut_bool hb _)
  · rw [hfn']
    refine trodAll_stays hl hm hz (fun t ht => ?_) hA (fun x hx => ?_) (fun x hx => by simpa using hlt x hx)
    · have := List.all_eq_true.1 hts t ht
      simpa [Nat.blt_eq] using this
    · cases x with
      | cell b o => exact hbel.cell (p := ⟨b, o, none⟩) (hlt _ hx)
      | map b => exact hbel.block b (hlt _ hx)
  · rw [hfn', hv]; exact rfl
theorem weights_cons {t : TypeId} {ts : List TypeId} {d : DataW H} {ds : List (DataW H)} (h : (DataW.weightsEach P (t :: ts) (d :: ds)).all (· ≤ reachBytes) = true) : (∀ m ∈ d.weights P t, m ≤ reachBytes) ∧ (DataW.weightsEach P ts ds).all (· ≤ reachBytes) = true := by
  simp only [DataW.weightsEach, List.all_append, Bool.and_eq_true] at h
  exact ⟨fun m hm => by simpa using List.all_eq_true.1 h.1 m hm, h.2⟩
end
theorem Ct.law {P : Program} {f : FuncId} {args : List Know} (h : Ct P f args (kB true)) {W : World} {vs : Array Value} (hv : allK ⟨memJ W, noM⟩ args vs.toList) {Q : Ending → World → Prop} (hq : ∀ W', Below W.heap.size W W' → Q (.returned (.bool true)) W') : Calls P f vs W Q := by
  have := h W (memJ W) (memJ_im W) vs.toList hv
  refine this.mono fun e W' ⟨r, J', he, hb, _, _, _, hr⟩ => ?_
  subst he
  rw [show r = .bool true from hr]
  exact hq W' hb
theorem kI_rd {k : IntKind} {n : Int} {g : Gh} {v : Value} (h : kRd (eInt k) n g v) : kDet (.int k n) g v := by
  obtain ⟨_, rfl, rfl⟩ := h; rfl
theorem kS_rd {n : ByteArray} {g : Gh} {v : Value} (h : kRd eStr n g v) : kDet (.string n) g v := by
  obtain ⟨_, rfl, rfl⟩ := h; rfl
theorem kB_rd {n : Bool} {g : Gh} {v : Value} (h : kRd eBool n g v) : kDet (.bool n) g v := by
  obtain ⟨_, rfl, rfl⟩ := h; rfl
end Go.Fl

/- Function values as arguments: what is known of what they answer. Shorter words for the walks. -/
namespace Go.Fl
open Go Go.RowKit
theorem rr {p : Prop} : p → true = true := fun _ => rfl
/-- A function value that answers as a family of contracts says. -/
def kFun {α : Type} (P : Program) (φ : α → Prop) (ks : α → List Know) (res : α → Know) : Know := fun g v => ∃ f first, v = .func (.func f) first #[] ∧ TyFn P f ∧ ∀ a, φ a → ∀ w J, g.J.le J → Im J w → ∀ vs, allK ⟨J, noM⟩ (ks a) vs → Calls P f (first ++ vs.toArray) w (RetR w J (res a))
instance {α : Type} {P : Program} {φ : α → Prop} {ks : α → List Know} {res : α → Know} : KDep (kFun P φ ks res) [] := ⟨fun hl _ ⟨f, first, h1, h2, h3⟩ => ⟨f, first, h1, h2, fun a ha w J hJ => h3 a ha w J (JV.le_trans hl hJ)⟩⟩
theorem kFun_ct {α : Type} {P : Program} {f : FuncId} [hf : TyFn P f] {φ : α → Prop} {ks : α → List Know} {res : α → Know} (h : ∀ a, φ a → Ct P f (ks a) (res a)) (g : Gh) (v : Value) (hv : kDet (.func (.func f) #[] #[]) g v) : kFun P φ ks res ⟨g.J, noM⟩ v :=
  ⟨f, #[], hv, hf, fun a ha w J _ him vs hvs => by rw [Array.empty_append]; exact h a ha w J him vs hvs⟩
section
variable {P : Program} {c : Ctx} {S : Slots} {M : Conts} {p : Bool} {d : Option Tmp} {ty : TypeId} {pos : String} {af : Array Edge} {gd : Option (Nat × Bool)} {x : Operand} {b : Bool}
theorem ok_callF {α : Type} (a : α) {φ : α → Prop} {ks : α → List Know} {res : α → Know} {args : List Operand} {tys : Array TypeId} (hx : opK S x = some (b, kFun P φ ks res)) (hb : p = true → b = true) (ha : p = true → φ a) (hargs : ArgsOk S p args (ks a)) [hk : KDep (res a) []] :
    OpOk P c S M ⟨d, .call { callee := .value x, args := args.toArray, argTypes := tys }, ty, pos, af, gd⟩ p (res a) none := by
  intro hp q g w hok hc ho _
  obtain ⟨f, first, hfv, hf, hct⟩ := ho x (by simp [Op.operands, Call.operands]) b _ hx (hb hp)
  have hvs := hargs.eval (g := g) (ρ := q.eval) hp (fun y hy b k hk hb => ho y (by simp [Op.operands, Call.operands, hy]) b k hk hb)
  have hr := hct a (ha hp) w g.J (JV.le_refl _) hok.im _ hvs
  unfold Oper.wp
  simp only [execOp, resolve, hfv, Deferred.ofValue, Sem.run_bind, Sem.run_pure, Result.andThen_ok, invoke, List.map_toArray, Array.append_empty]
  rw [hf.run]
  simp only [Oper.upon]
  refine hr.mono fun e w' he => ?_
  obtain ⟨r, J', rfl, hbel, hJ, hold, him, hres⟩ := he
  exact ⟨r, _, rfl, Did.call hok hbel hJ hold him hres⟩
end
end Go.Fl

/- Slices of the call's own that begin behind the head of their row: queues. -/
namespace Go.Fl
open Go Go.RowKit
/-- A slice of the call's own row, from its element 'off' on; n: the cells of an element. -/
def kOsq (t n off len : Nat) : Know := fun g v => ∃ b cap o, g.M t = some (.blk b cap) ∧ off + len ≤ cap ∧ (off < cap → o = off * n) ∧ v = .slice (some ⟨b, o, none⟩) len (cap - off)
instance (t n o l : Nat) : KDep (kOsq t n o l) [t] := ⟨fun _ hd ⟨b, cap, a, h1, h2⟩ => ⟨b, cap, a, (hd t (by simp)).trans h1, h2⟩⟩
instance (t n o l : Nat) : KHas (kOsq t n o l) t := ⟨fun ⟨b, cap, a, h1, _⟩ => by rw [h1]; simp⟩
section
variable {P : Program} {c : Ctx} {S : Slots} {M : Conts} {p : Bool} {d : Option Tmp} {ty : TypeId} {pos : String} {af : Array Edge} {gd : Option (Nat × Bool)} {x y : Operand} {b b' : Bool}
theorem ok_bslQ {t et : TypeId} [ht : TySl P t et] {size bytes : Nat} {zz : Value} [hsz : TySz P et size bytes zz] {α : Type} (e : Enc α) {xs : List α} {len : Nat} {parts : List (Nat × Operand)} (u : Nat) (h : p = true → ElemsOk S e 0 parts xs) (hl : xs.length = len)
    (hs : size = e.n) (hsm : Nat.ble (len * size) 16777216 = true) (hpos : Nat.blt 0 (len * size) = true) :
    OpOk P c S M ⟨d, .buildSlice t len parts.toArray, ty, pos, af, gd⟩ p (kOsq u size 0 len) (some ⟨u, [], cArr false et e xs len⟩) := by
  intro hp a g w hok hc ho hf
  have hf' := hf _ rfl
  obtain ⟨i, hi, rfl, rfl, hzz⟩ := hsz.h
  have hsm' := Nat.le_of_ble_eq_true hsm
  have hpos' : 0 < len * i.size := by simpa [Nat.blt_eq] using hpos
  obtain ⟨cs, h1, h2, _, h4⟩ := (h hp).fill (g := g) (ρ := a.eval) (fun y hy b k hk hb => ho y.2 (by simp only [Op.operands]; simp; exact ⟨y.1, hy⟩) b k hk hb) (cells := (Array.range (len * i.size)).map (zz.cells[· % zz.cells.size]!)) (by simp [hl, hs])
  have hmap : (parts.toArray.map fun (y : Nat × Operand) => (y.1, a.eval y.2)).toList = parts.map fun y => (y.1, a.eval y.2) := by simp
  rw [← hs] at h1
  have hr := run_buildSlice (P := P) w t et len (parts.toArray.map fun (y : Nat × Operand) => (y.1, a.eval y.2)) cs i zz ht.h hi hzz (by omega) (by omega) (by rw [hmap]; exact h1)
  unfold Oper.wp
  simp only [execOp, Sem.run_bind]
  rw [show (parts.toArray.map fun x : Nat × Operand => match x with | (i, x) => (i, a.eval x)) = parts.toArray.map fun (y : Nat × Operand) => (y.1, a.eval y.2) from rfl, hr]
  simp only [Result.andThen_ok, Sem.run_pure, Oper.upon]
  refine ⟨_, _, rfl, Did.alloc (cap := len) hok hf' (.inl rfl) ⟨_, _, 0, Gh.add_same _ _ _, by omega, fun _ => by omega, rfl⟩ ⟨hl, fun h => (by cases h), cs, rfl, ?_, Nat.le_refl _, ?_, fun k x hx => ?_⟩⟩
  · rw [h2]; simp [hs]
  · have : len ≤ len * i.size := Nat.le_mul_of_pos_right _ (Nat.pos_of_ne_zero (fun h0 => by rw [h0] at hpos'; simp at hpos'))
    simp only [maxLen]; omega
  · obtain ⟨ds, k1, k2⟩ := h4 k x hx
    exact ⟨ds, k1, fun j v hj => by have := k2 j v hj; simpa using this⟩
theorem ok_lenQ {t : TypeId} {e' : TypeId} [ht : TySl P t e'] {u n off len : Nat} (hx : opK S x = some (b, kOsq u n off len)) (hb : p = true → b = true) : OpOk P c S M ⟨d, .call { callee := .builtin .len, args := #[x], argTypes := #[t] }, ty, pos, af, gd⟩ p (kI len) none :=
  OpOk.pure fun hp a g w _ _ ho => by
    obtain ⟨_, _, _, _, _, _, h2⟩ := ho x (by simp [Op.operands, Call.operands]) b _ hx (hb hp)
    exact ⟨_, by simp [execOp, resolve, invoke, builtin, Builtin.len_, h2, run_underlying ht.h, goInt], rfl⟩
theorem ok_idxQ {t et : TypeId} [ht : TySl P t et] {sz by' : Nat} {zz : Value} [hz : TySz P et sz by' zz] {u off len : Nat} {ik : IntKind} {i : Int} (hx : opK S x = some (b, kOsq u sz off len)) (hb : p = true → b = true) (hy : opK S y = some (b', kInt ik i)) (hb' : p = true → b' = true)
    (h : p = true → 0 ≤ i ∧ i < len) : OpOk P c S M ⟨d, .indexAddr t x y, ty, pos, af, gd⟩ p (kEl u sz (off + i.toNat) (off + len)) none :=
  OpOk.pure fun hp a g w _ _ ho => by
    have hi : a.eval y = _ := ho y (by simp [Op.operands]) b' _ hy (hb' hp)
    have hlt := h hp
    obtain ⟨bk, cap, o, h1, h3, h4, h2⟩ := ho x (by simp [Op.operands]) b _ hx (hb hp)
    have ho' := h4 (by omega)
    exact ⟨.pointer (some ⟨bk, o + i.toNat * sz, none⟩), by simp only [execOp, h2, hi, Sem.run_bind, idx_run (P := P) hlt, Result.andThen_ok, Sem.run_pure], by omega, bk, cap, h1, by rw [ho', Nat.add_mul]⟩
/-- 'q[l:]'. -/
theorem ok_slQ {t et : TypeId} [ht : TySl P t et] {sz by' : Nat} {zz : Value} [hz : TySz P et sz by' zz] {u off len : Nat} {ik : IntKind} {i : Int} (hx : opK S x = some (b, kOsq u sz off len)) (hb : p = true → b = true) (hy : opK S y = some (b', kInt ik i)) (hb' : p = true → b' = true)
    (h : p = true → 0 ≤ i ∧ i ≤ len) : OpOk P c S M ⟨d, .slice t x (some y) none none, ty, pos, af, gd⟩ p (kOsq u sz (off + i.toNat) (len - i.toNat)) none :=
  OpOk.pure fun hp a g w _ _ ho => by
    have hi : a.eval y = _ := ho y (by simp [Op.operands]) b' _ hy (hb' hp)
    have hlt := h hp
    obtain ⟨bk, cap, o, h1, h3, h4, h2⟩ := ho x (by simp [Op.operands]) b _ hx (hb hp)
    obtain ⟨j, hj, rfl, rfl, _⟩ := hz.h
    refine ⟨.slice (if cap - off = i.toNat then some ⟨bk, o, none⟩ else some ⟨bk, o + i.toNat * j.size, none⟩) (len - i.toNat) (cap - off - i.toNat), ?_, bk, cap, (if cap - off = i.toNat then o else o + i.toNat * j.size), h1, by omega, fun hc => ?_, ?_⟩
    · have hun : P.underlying t = some (.slice (P.elem t)) := by rw [ht.h]; simp [Program.elem, ht.h]
      have hel : P.elem t = et := by simp [Program.elem, ht.h]
      simp only [execOp, h2, hi, Option.map]
      rw [Sem.run_bind, run_sliceAt_slice w t _ _ _ _ hun, run_slice_l w t _ len (cap - off) hun ik i hlt.1 hlt.2, hel]
      have hsz : (sizeOf et).run P w = .ok j.size w := by simp [sizeOf, typeInfo, hj]
      simp only [Result.andThen_ok, Sem.run_pure, hsz, sliced, Option.map, Addr.add_lit]
    · rw [if_neg (by omega), h4 (by omega), Nat.add_mul]
    · rw [show cap - (off + i.toNat) = cap - off - i.toNat by omega]
      split <;> rfl
variable {ops : Array Oper} {rest : List Oper} {Q : Exit → Act → World → Prop} {dd : Nat}
/-- An append to a queue: in place, or onto a new row. -/
theorem TrL.appQ {t et : TypeId} [ht : TySl P t et] {size bytes : Nat} {zz : Value} [hsz : TySz P et size bytes zz] {α : Type} {e : Enc α} {xs ys : List α} {u off len len' m : Nat} {dep : List Nat} {k : Know} {M' : List α → Nat → Conts}
    (hx : opK S x = some (true, kOsq u size off len)) [hl : LkM M u (cArr false et e xs len') dep] (hle : off + len = len') (hy : opK S y = some (true, k)) [hsrc : Src M k e ys] (hm : ys.length = m) (hup : ∀ L n, UpM M u (cArr false et e L n) [] (M' L n))
    (hs : size = e.n) (hzz : zz.cells.size = size) (hpos : 0 < size) (hnd : noDep u M = true) (hn : Nat.blt dd c.n = true) (h63 : len' + m ≤ 9223372036854775807) (hb : (len' + m) * bytes ≤ 140737488355328)
    (K : ∀ (L : List α) (o : Nat), (o = off ∧ L = xs ++ ys) ∨ (o = 0 ∧ L = xs.drop off ++ ys) → TrL P c ops (⟨dd, true, [u], kOsq u size o (len + m)⟩ :: inv u S) (M' L (o + (len + m))) rest Q) :
    TrL P c ops S M (⟨some dd, .call { callee := .builtin .append, args := #[x, y], argTypes := #[t, t] }, ty, pos, af, none⟩ :: rest) Q := by
  intro a g w hsat
  subst hle hm
  obtain ⟨i, hi, rfl, rfl, hz⟩ := hsz.h
  have hdn : dd < c.n := by simpa [Nat.blt_eq] using hn
  obtain ⟨b, cap, ad0, hm, hoc, had, ex⟩ := opK_holds hsat.slots hx rfl
  have hk2 := hsrc.imp hsat.ok hsat.conts (opK_holds hsat.slots hy rfl)
  obtain ⟨news, ad, c2, e2, n1, n2, n3, n4⟩ := src_cells (P := P) hk2
  rw [← hs] at n1 n4
  obtain ⟨h0, _, cs, h3, h4, h5, h6, h7⟩ := arr_of (xs := xs) hsat.conts hm
  refine wpList_plain rfl fun K' hK' => ?_
  unfold Oper.wp
  simp only [execOp, resolve, invoke, builtin, Sem.run_bind, Sem.run_pure, Result.andThen_ok, List.map_toArray, List.map_cons, List.map_nil]
  have finish : ∀ {bk' : Bk} {w' : World} {v' : Value} (L : List α) (o : Nat), (o = off ∧ L = xs ++ ys) ∨ (o = 0 ∧ L = xs.drop off ++ ys) → But (.blk b cap) w w' → (∀ b2 cap2, bk' = .blk b2 cap2 → (∃ cap0, Bk.blk b cap = .blk b2 cap0) ∨ (w.heap.size ≤ b2 ∧ b2 < w'.heap.size)) →
      cArr false et e L (o + (len + ys.length)) ⟨g.J, fun t => if t = u then some bk' else g.M t⟩ bk' (World.objAt w' bk') → kOsq u i.size o (len + ys.length) ⟨g.J, fun t => if t = u then some bk' else g.M t⟩ v' →
      (Builtin.append_ #[t, t] ty #[a.eval x, a.eval y]).run P w = .ok v' w' →
      Oper.upon P ⟨some dd, .call { callee := .builtin .append, args := #[x, y], argTypes := #[t, t] }, ty, pos, af, none⟩ a K' Q (((Builtin.append_ #[t, t] ty #[a.eval x, a.eval y]).run P w).andThen fun v w => .ok (.value v) w) := by
    intro bk' w' v' L o hLo hbut hbk hct hkk hr
    rw [hr]
    simp only [Result.andThen_ok, Oper.upon]
    exact hK' _ _ (K L o hLo _ _ _ (hsat.rebind hm hbut (hup L _) hnd inferInstance hbk hct hdn hkk))
  have hcl : (off + len) * e.n ≤ cs.size := by rw [h4]; exact Nat.mul_le_mul_right _ h5
  by_cases hroom : off + len + ys.length ≤ cap
  · by_cases hzero : off < cap
    · have hst := run_storeCells_at P b ((off + len) * e.n) et news 0 cs w h3 (by rw [n1, hs, Nat.add_zero, ← Nat.add_mul, h4]; exact Nat.mul_le_mul_right _ hroom) n2
      simp only [Nat.add_zero] at hst
      have holdl : (cs.toList.take ((off + len) * e.n)).length = (off + len) * e.n := by simp; omega
      have hold : ∀ i x, xs[i]? = some x → ∃ ds, e.rd g.J ds x ∧ ∀ j v, ds[j]? = some v → (cs.toList.take ((off + len) * e.n))[i * e.n + j]? = some v := fun i x hx => by
        obtain ⟨ds, q1, q2⟩ := h7 i x hx
        refine ⟨ds, q1, fun j v hj => ?_⟩
        have hil := (List.getElem?_eq_some_iff.1 hx).1
        have hjl := (List.getElem?_eq_some_iff.1 hj).1
        rw [e.len q1] at hjl
        have : (i + 1) * e.n ≤ (off + len) * e.n := Nat.mul_le_mul_right _ (by omega)
        rw [Nat.succ_mul] at this
        rw [List.getElem?_take, if_pos (by omega)]
        simpa using q2 j v hj
      refine finish (bk' := .blk b cap) (w' := w.setRow b (cs.toList.take ((off + len) * e.n) ++ news ++ cs.toList.drop ((off + len) * e.n + news.length)).toArray) (v' := .slice (some ⟨b, ad0, none⟩) (len + ys.length) (cap - off)) (xs ++ ys) off (.inl ⟨rfl, rfl⟩) ⟨rfl, rfl, rfl, by simp, fun k _ hk => setRow_other w b k _ (fun e' => hk cap (by rw [e']))⟩ (fun b' cap' hb => by cases hb; exact .inl ⟨_, rfl⟩) ?_ ⟨_, _, _, if_pos rfl, by omega, had, rfl⟩ ?_
      · refine ⟨by simp [h0]; omega, (fun hz0 => by cases hz0), _, setRow_heap w b cs _ et (0, 0) h3, ?_, by omega, h6, fun i' x' hx' => ?_⟩
        · simp [n1, hs]; rw [Nat.min_eq_left hcl]; have : (off + len) * e.n + ys.length * e.n ≤ cs.size := by rw [← Nat.add_mul, h4]; exact Nat.mul_le_mul_right _ hroom
          omega
        · obtain ⟨ds, q1, q2⟩ := arr_append (cs := cs.toList.take ((off + len) * e.n) ++ news ++ cs.toList.drop ((off + len) * e.n + news.length)) (by rw [holdl, h0]) (fun j v hj => by rw [List.getElem?_append_left (List.getElem?_eq_some_iff.1 hj).1]; exact hj) hold n3 i' x' hx'
          exact ⟨ds, q1, fun j v hj => by have := q2 j v hj; simpa using this⟩
      · rw [ex, e2, run_app_room ht.h hi (e2 ▸ n4 w rfl) (by omega)]
        simp only [Addr.add_lit, hs]
        rw [had hzero, hs, ← Nat.add_mul, hst]
        rfl
    · have hy0 : ys = [] := List.eq_nil_of_length_eq_zero (by omega)
      subst hy0
      have hnews : news = [] := List.eq_nil_of_length_eq_zero (by simpa using n1)
      subst hnews
      refine finish (bk' := .blk b cap) (w' := w) (v' := .slice (some ⟨b, ad0, none⟩) len (cap - off)) (xs ++ []) off (.inl ⟨rfl, rfl⟩) ⟨rfl, rfl, rfl, Nat.le_refl _, fun _ _ _ => rfl⟩ (fun b' cap' hb => by cases hb; exact .inl ⟨_, rfl⟩) ?_ ⟨_, _, _, if_pos rfl, by simpa using hoc, had, rfl⟩ ?_
      · rw [List.append_nil]
        exact ⟨by simpa using h0, (fun hz0 => by cases hz0), cs, h3, h4, h5, h6, h7⟩
      · rw [ex, e2, run_app_room ht.h hi (e2 ▸ n4 w rfl) (by simp; omega)]
        rfl
  · have hcells : ∀ j v, ((cs.toList.take ((off + len) * e.n)).drop (off * e.n))[j]? = some v → w.cell? ⟨b, off * e.n + j, none⟩ = some v := fun j v hj => by
      rw [List.getElem?_drop, List.getElem?_take] at hj
      split at hj
      · exact cell_own h3 (by simpa using hj)
      · cases hj
    have hol : ((cs.toList.take ((off + len) * e.n)).drop (off * e.n)).length = len * e.n := by
      rw [List.length_drop, List.length_take, Array.length_toList, Nat.min_eq_left hcl, Nat.add_mul]; omega
    have holds : ∀ i x, (xs.drop off)[i]? = some x → ∃ ds, e.rd g.J ds x ∧ ∀ j v, ds[j]? = some v → ((cs.toList.take ((off + len) * e.n)).drop (off * e.n))[i * e.n + j]? = some v := fun i x hx => by
      rw [List.getElem?_drop] at hx
      obtain ⟨ds, q1, q2⟩ := h7 _ x hx
      refine ⟨ds, q1, fun j v hj => ?_⟩
      have hil := (List.getElem?_eq_some_iff.1 hx).1
      have hjl := (List.getElem?_eq_some_iff.1 hj).1
      rw [e.len q1] at hjl
      have : (off + i + 1) * e.n ≤ (off + len) * e.n := Nat.mul_le_mul_right _ (by omega)
      rw [Nat.succ_mul, Nat.add_mul] at this
      have q3 := q2 j v hj
      rw [Nat.add_mul] at q3
      rw [List.getElem?_drop, List.getElem?_take, if_pos (by omega), show off * e.n + (i * e.n + j) = off * e.n + i * e.n + j by omega]
      simpa using q3
    have hfo : (Builtin.firstCells i.size len (.slice (some ⟨b, ad0, none⟩) len (cap - off))).run P w.drew = .ok ((cs.toList.take ((off + len) * e.n)).drop (off * e.n)).toArray w.drew := by
      refine run_first (by rw [hol, hs]) fun j v hj => ?_
      rw [World.cell?_drew]
      by_cases hz0 : off < cap
      · rw [had hz0, hs]; exact hcells j v hj
      · have hl0 : len = 0 := by omega
        have := (List.getElem?_eq_some_iff.1 hj).1
        rw [hol, hl0] at this; omega
    have hr := run_app_grow (ty := ty) ht.h hi hz hfo (e2 ▸ n4 w.drew rfl) (cap := cap - off) (by omega) (by omega) (growslice_fits (by omega) (Nat.le_trans (Nat.mul_le_mul_right _ (by omega)) hb))
    have hge := grownCap_ge w (len + ys.length) (cap - off) et
    have hcm := grownCap_le_maxLen w (len + ys.length) (cap - off) et (by simp only [maxLen]; omega)
    have hobj := heap_alloc_new w.drew (.cells (((cs.toList.take ((off + len) * e.n)).drop (off * e.n)).toArray ++ news.toArray ++ Builtin.zeroCells zz.cells (grownCap w (len + ys.length) (cap - off) et - (len + ys.length))) et)
    refine finish (bk' := .blk w.heap.size (grownCap w (len + ys.length) (cap - off) et)) (w' := w.drew.alloc (.cells (((cs.toList.take ((off + len) * e.n)).drop (off * e.n)).toArray ++ news.toArray ++ Builtin.zeroCells zz.cells (grownCap w (len + ys.length) (cap - off) et - (len + ys.length))) et)) (xs.drop off ++ ys) 0 (.inr ⟨rfl, rfl⟩) ⟨rfl, rfl, rfl, by simp, fun q hq _ => Below.heap_alloc w.drew _ q hq⟩ (fun b cap hb => by cases hb; exact .inr ⟨Nat.le_refl _, by simp⟩) ?_ ⟨_, _, 0, if_pos rfl, by omega, fun _ => by omega, by rw [Nat.sub_zero]⟩ (by rw [ex, e2]; exact hr)
    refine ⟨by simp [h0], (fun hz0 => by cases hz0), _, hobj, ?_, by omega, hcm, fun i' x' hx' => ?_⟩
    · simp only [Array.size_append, List.size_toArray, size_zeroCells, hol, n1, hzz, hs, ← Nat.add_mul]
      congr 1; omega
    · obtain ⟨ds, q1, q2⟩ := arr_append (cs := (cs.toList.take ((off + len) * e.n)).drop (off * e.n) ++ news ++ (Builtin.zeroCells zz.cells (grownCap w (len + ys.length) (cap - off) et - (len + ys.length))).toList) (by rw [hol, List.length_drop, h0]; congr 1; omega) (fun j v hj => by rw [List.getElem?_append_left (List.getElem?_eq_some_iff.1 hj).1]; exact hj) holds n3 i' x' hx'
      refine ⟨ds, q1, fun j v hj => ?_⟩
      have := q2 j v hj
      rw [← Array.getElem?_toList]
      simpa [List.append_assoc] using this
/-- What a queue holds behind an append. -/
theorem que_app {α : Type} {xs ys L : List α} {o off : Nat} (hle : off ≤ xs.length) (h : (o = off ∧ L = xs ++ ys) ∨ (o = 0 ∧ L = xs.drop off ++ ys)) : L.drop o = xs.drop off ++ ys ∧ o ≤ L.length ∧ L.length - o = xs.length - off + ys.length ∧ L.length ≤ xs.length + ys.length := by
  rcases h with ⟨rfl, rfl⟩ | ⟨rfl, rfl⟩
  · refine ⟨List.drop_append_of_le_length hle, by simp; omega, by simp; omega, by simp⟩
  · exact ⟨rfl, Nat.zero_le _, by simp, by simp⟩
end
theorem SSub.q {S : Slots} {M M' : Conts} {S' : Slots} {s t n o o' l l' : Nat} (hl : look S s = some (true, kOsq t n o l)) (ho : o = o') (hn : l = l') (hs : subT [t] (tags M') = true) (r : SSub S M S' M') : SSub S M (⟨s, true, [t], kOsq t n o' l'⟩ :: S') M' :=
  r.conv hl rfl (fun _ _ h => by subst ho; subst hn; exact h) hs
end Go.Fl

/- Calls that change one block of the caller's own: the block is handed on (a pointer to it, or a slice of it, is the first argument) and holds something else behind the call. No program in sight. -/
namespace Go.Fl
open Go Go.RowKit

def g1 (J : JV) (b cap : Nat) : Gh := ⟨J, fun t => if t = 0 then some (.blk b cap) else none⟩
/-- f is run with the block handed on; nothing else that was there turns. -/
def CtB (P : Program) (f : FuncId) (k0 : Know) (ks : List Know) (ct ct' : Cont) (res : Know) : Prop :=
  ∀ w J b cap, Im J w → (∀ o, J b o = none) → b < w.heap.size → ct (g1 J b cap) (.blk b cap) w.heap[b]? → ∀ v vs, k0 (g1 J b cap) v → allK ⟨J, noM⟩ ks vs →
    Calls P f (v :: vs).toArray w fun e w' => ∃ r J', e = .returned r ∧ But (.blk b cap) w w' ∧ J.le J' ∧ (∀ b' o, b' < w.heap.size → J' b' o = J b' o) ∧ Im J' w' ∧ res ⟨J', noM⟩ r ∧ ct' (g1 J' b cap) (.blk b cap) w'.heap[b]?
theorem Sat.mut {c : Ctx} {S : Slots} {M M' : Conts} {a : Act} {g : Gh} {w w' : World} (h : Sat c S M a g w) {u b cap : Nat} (hm : g.M u = some (.blk b cap)) (hbut : But (.blk b cap) w w') {J' : JV} (hJ : g.J.le J') (hJo : ∀ b' o, b' < w.heap.size → J' b' o = g.J b' o) (him : Im J' w')
    {ct' : Cont} (hup : UpM M u ct' [] M') (hd : CDep ct' []) (hct : ct' ⟨J', g.M⟩ (.blk b cap) w'.heap[b]?) {d : Nat} (hn : d < c.n) {k : Know} {v : Value} (hk : k ⟨J', g.M⟩ v) [hkd : KDep k []] :
    Sat c (⟨d, true, [], k⟩ :: S) M' (a.put (some d) v) ⟨J', g.M⟩ w' := by
  have htag := hup.tags
  obtain ⟨hob, hlt, hJn⟩ := h.ok.own u b cap hm
  have hle : g.le ⟨J', g.M⟩ := ⟨hJ, fun _ _ e => e⟩
  refine ⟨⟨⟨hbut.os.trans h.ok.bel.os, hbut.tape.trans h.ok.bel.tape, hbut.output.trans h.ok.bel.output, Nat.le_trans h.ok.bel.size hbut.size, fun q hq hnb => ?_⟩, JV.le_trans h.ok.jle hJ, fun b' o hb => ?_, him, fun t b' cap' ht => ?_, h.ok.inj⟩, ?_, ?_, ?_, ?_, ?_, ?_, h.defers, by simp [Act.put, h.size]⟩
  · rw [hbut.block q (Nat.lt_of_lt_of_le hq h.ok.bel.size) (fun cap' e => by cases e; rcases hob with h1 | h1; omega; exact hnb h1)]
    exact h.ok.bel.block q hq hnb
  · show J' b' o = c.J0 b' o
    rw [hJo b' o (Nat.lt_of_lt_of_le hb h.ok.bel.size)]; exact h.ok.jold b' o hb
  · obtain ⟨h1, h2, h3⟩ := h.ok.own t b' cap' ht
    exact ⟨h1, Nat.lt_of_lt_of_le h2 hbut.size, fun o => by show J' b' o = none; rw [hJo b' o h2]; exact h3 o⟩
  · exact (h.slots.on h.sdep h.conts hle).put (by rw [h.size]; exact hn) ⟨fun _ => hk, fun hf => by cases hf⟩
  · intro e he
    rcases hup.mem h.nodup e he with rfl | ⟨he, hne⟩
    · exact ⟨_, hm, hct⟩
    · obtain ⟨bk, h1, h2⟩ := h.conts e he
      refine ⟨bk, h1, ?_⟩
      have : World.objAt w' bk = World.objAt w bk := by
        cases bk with
        | nil => rfl
        | blk b' cap' => exact hbut.block b' (h.ok.own _ _ _ h1).2.1 (fun cap'' e' => by cases e'; exact hne (h.ok.inj _ _ _ _ _ h1 hm))
      rw [this]
      exact (h.cdep e he).1.dep hJ (fun _ _ => rfl) h2
  · intro t ht
    have := h.dom t ht
    show t ∈ tags M'
    rw [htag]; exact this
  · show (tags M').Nodup
    rw [htag]; exact h.nodup
  · intro e he
    rcases List.mem_cons.1 he with rfl | he
    · exact ⟨hkd, fun _ h => by cases h⟩
    · exact ⟨(h.sdep e he).1, fun t ht => by show t ∈ tags M'; rw [htag]; exact (h.sdep e he).2 t ht⟩
  · intro e he
    rcases hup.mem h.nodup e he with rfl | ⟨he, _⟩
    · exact ⟨hd, fun _ h => by cases h⟩
    · exact ⟨(h.cdep e he).1, fun t ht => by show t ∈ tags M'; rw [htag]; exact (h.cdep e he).2 t ht⟩
/-- The first argument is one of the call's own, at tag u; what it is at tag 0. -/
class Own1 (k : Know) (u : outParam Nat) (k0 : outParam Know) : Prop where
  imp : ∀ {g : Gh} {v : Value} {b cap : Nat} {J : JV}, g.M u = some (.blk b cap) → k g v → k0 (g1 J b cap) v
  blk : ∀ {g : Gh} {v : Value}, k g v → ∃ bk, g.M u = some bk
instance {u o : Nat} : Own1 (kOwn u o) u (kOwn 0 o) := ⟨fun hm ⟨b, cap, h1, h2⟩ => ⟨b, cap, by rw [hm] at h1; simpa [g1] using h1, h2⟩, fun ⟨_, _, h1, _⟩ => ⟨_, h1⟩⟩
instance {u len : Nat} : Own1 (kOsl u len) u (kOsl 0 len) := ⟨fun hm h => by
  rcases h with ⟨h1, _⟩ | ⟨b, cap, h1, h2⟩
  · rw [hm] at h1; cases h1
  · exact .inr ⟨b, cap, by rw [hm] at h1; simpa [g1] using h1, h2⟩, fun h => by
  rcases h with ⟨h1, _⟩ | ⟨b, cap, h1, h2⟩ <;> exact ⟨_, h1⟩⟩
section
variable {P : Program} {c : Ctx} {ops : Array Oper} {S : Slots} {M : Conts} {rest : List Oper} {Q : Exit → Act → World → Prop}
variable {d : Nat} {ty : TypeId} {pos : String} {af : Array Edge}
theorem TrL.mut {f : FuncId} [hf : TyFn P f] {x : Operand} {args : List Operand} {tys : Array TypeId} {ks : List Know} {k k0 res : Know} {u : Nat} {ct ct0 ct' : Cont} {dep : List Nat} {M' : Conts} (hct : CtB P f k0 ks ct ct' res) (hx : opK S x = some (true, k)) [ho : Own1 k u k0] (ha : ArgsOk S true args ks)
    [hl : LkM M u ct0 dep] (hc : ∀ g b cap o, ct0 g (.blk b cap) o → ct (g1 g.J b cap) (.blk b cap) o) (hnil : ∀ g o, ¬ ct0 g .nil o) (hc' : ∀ {J b cap o} {g : Gh}, ct' (g1 J b cap) (.blk b cap) o → ct' ⟨J, g.M⟩ (.blk b cap) o) [hcd : CDep ct' []] [hup : UpM M u ct' [] M'] [hkd : KDep res []] (hn : Nat.blt d c.n = true)
    (K : TrL P c ops (⟨d, true, [], res⟩ :: S) M' rest Q) : TrL P c ops S M (⟨some d, .call { callee := .value (.func f), args := (x :: args).toArray, argTypes := tys }, ty, pos, af, none⟩ :: rest) Q := by
  intro a g w hsat
  have hdn : d < c.n := by simpa [Nat.blt_eq] using hn
  have hk := opK_holds hsat.slots hx rfl
  obtain ⟨bk, hm⟩ := ho.blk hk
  obtain ⟨bk2, hm2, hobj⟩ := hsat.conts _ hl.mem
  simp only at hm2 hobj
  rw [hm] at hm2; cases hm2
  cases bk with
  | nil => exact absurd hobj (hnil _ _)
  | blk b cap =>
    obtain ⟨_, hlt, hJn⟩ := hsat.ok.own u b cap hm
    have hargs := ha.eval (g := g) (ρ := a.eval) rfl (fun y _ b k hk hb => opK_holds hsat.slots hk hb)
    have hr := hct w g.J b cap hsat.ok.im hJn hlt (hc _ _ _ _ hobj) _ _ (ho.imp hm hk) hargs
    refine wpList_plain rfl fun K' hK' => ?_
    unfold Oper.wp
    simp only [execOp, resolve, Act.eval, Deferred.ofValue, Sem.run_bind, Sem.run_pure, Result.andThen_ok, invoke, List.map_toArray, List.map_cons, Array.append_empty, Array.empty_append]
    rw [hf.run]
    simp only [Oper.upon]
    refine hr.mono fun e w' he => ?_
    obtain ⟨r, J', rfl, h1, h2, h3, h4, h5, h6⟩ := he
    exact hK' _ _ (K _ _ _ (hsat.mut hm h1 h2 h3 h4 hup hcd (hc' h6) hdn (hkd.dep (g := ⟨J', noM⟩) (JV.le_refl _) (fun _ h => by cases h) h5)))
end

end Go.Fl

/- A region that draws its order and changes a thing of the call's own by an operation that hands back a value ('copy'). -/
namespace Go.Fl
open Go Go.RowKit
def MutOk (P : Program) (c : Ctx) (S : Slots) (M : Conts) (o : Oper) (u : Nat) (ct' : Cont) (d : Nat) (v : Value) : Prop :=
  ∀ (a : Act) (g : Gh) (w : World), Ok c g w → ContsHold M g w → OpsHold S o a g → o.wp P a w (fun a' w' => a' = a.put (some d) v ∧ StDid u ct' g w w') (fun _ _ _ => False)
theorem look_sl : ∀ {rs : List Rec} {S : Slots} {d : Nat}, look (sl S rs) d = none → look S d = none ∧ ∀ r ∈ rs, r.d ≠ d
  | [], _, _, h => ⟨by simpa [sl] using h, fun _ h => by cases h⟩
  | r :: rs, S, d, h => by
    obtain ⟨h1, h2⟩ := look_sl (rs := rs) (S := r.se :: S) (d := d) (by simpa [sl] using h)
    simp only [look] at h1
    cases hb : Nat.beq r.se.s d with
    | true => rw [hb] at h1; cases h1
    | false =>
      rw [hb] at h1
      refine ⟨h1, fun x hx => ?_⟩
      rcases List.mem_cons.1 hx with rfl | hx
      · exact Nat.ne_of_beq_eq_false hb
      · exact h2 x hx
theorem Sat.putx {c : Ctx} {S : Slots} {M : Conts} {a : Act} {g : Gh} {w : World} (h : Sat c S M a g w) {d : Nat} {v : Value} (hl : look S d = none) (_ : d < c.n) : Sat c S M (a.put (some d) v) g w :=
  ⟨h.ok, fun t b k hk => by
    have : d ≠ t := fun e => by subst e; rw [hl] at hk; cases hk
    rw [getD_put_other this]; exact h.slots t b k hk, h.conts, h.dom, h.nodup, h.sdep, h.cdep, h.defers, by simp [Act.put, h.size]⟩
theorem Sat.slotD {c : Ctx} {S : Slots} {M : Conts} {a : Act} {g : Gh} {w : World} (h : Sat c S M a g w) {d : Nat} {v : Value} (hv : a.tmps.getD d undef = v) : Sat c (⟨d, true, [], kDet v⟩ :: S) M a g w :=
  ⟨h.ok, fun t b k hk => by
    simp only [look] at hk
    cases hb : Nat.beq d t with
    | true =>
      rw [hb] at hk
      simp only [cond_true, Option.some.injEq, Prod.mk.injEq] at hk
      obtain ⟨rfl, rfl⟩ := hk
      rw [← Nat.eq_of_beq_eq_true hb]
      exact ⟨fun _ => hv, fun hf => by cases hf⟩
    | false => rw [hb] at hk; exact h.slots t b k hk, h.conts, h.dom, h.nodup, fun e he => by
    rcases List.mem_cons.1 he with rfl | he
    · exact ⟨inferInstance, fun _ h => by cases h⟩
    · exact h.sdep e he, h.cdep, h.defers, h.size⟩
section
variable {P : Program} {c : Ctx} {Q : Exit → Act → World → Prop} {l : List Oper} {m : Nat} {S : Slots} {M Mx : Conts} {MI : Nat → Conts} {rs : List Rec} {a0 : Act} {g0 : Gh} {w1 : World}
def RunC (P : Program) (c : Ctx) (l : List Oper) (Q : Exit → Act → World → Prop) (u : Nat) (M MA : Conts) (q : Nat) : List Oper → Nat → Slots → Conts → Prop
  | [], _, _, _ => False
  | o :: rest, 0, S, Mc => ∃ ct' dep' Mc' d v, (o.dst = some d ∧ look S d = none ∧ d < c.n) ∧ o.guard = none ∧ MutOk P c S M o u ct' d v ∧ UpM Mc u ct' dep' Mc' ∧ CDep ct' dep' ∧ (∀ t ∈ dep', t ∈ tags M) ∧ TrL P c l.toArray (⟨d, true, [], kDet v⟩ :: S) Mc' rest Q
  | o :: rest, k + 1, S, Mc => ∃ r M0, (M0 = MA ∨ (M0 = M ∧ anc l q (q - (k + 1)) = true)) ∧ StOk P c l.toArray M0 S Mc o r ∧ RunC P c l Q u M MA q rest k (r.se :: S) (consM r.new Mc)
theorem RunC.recs {u q : Nat} {M0 MA : Conts} : ∀ {k : Nat} {rest : List Oper} {S : Slots} {M : Conts}, k ≤ q → RunC P c l Q u M0 MA q rest k S M →
    ∃ (rs : List Rec) (MI : Nat → Conts), rs.length = k ∧ k < rest.length ∧ (∀ i r o, rs[i]? = some r → rest[i]? = some o → StOk P c l.toArray (MI i) (sl S (rs.take i)) (cl M (rs.take i)) o r) ∧
      (∀ i, i < k → MI i = MA ∨ (MI i = M0 ∧ anc l q (q - k + i) = true)) ∧ (∀ i, k ≤ i → MI i = MA) ∧
      ∃ o ct' dep' Mc' d v, rest[k]? = some o ∧ (o.dst = some d ∧ look (sl S rs) d = none ∧ d < c.n) ∧ o.guard = none ∧ MutOk P c (sl S rs) M0 o u ct' d v ∧ UpM (cl M rs) u ct' dep' Mc' ∧ CDep ct' dep' ∧ (∀ t ∈ dep', t ∈ tags M0) ∧ TrL P c l.toArray (⟨d, true, [], kDet v⟩ :: sl S rs) Mc' (rest.drop (k + 1)) Q
  | k, [], S, M, _, h => by cases k <;> exact h.elim
  | 0, o :: rest, S, M, _, h => by
    obtain ⟨ct', dep', Mc', d, v, h1, h2, h3, h4, h5, h6, h7⟩ := h
    exact ⟨[], fun _ => MA, rfl, by simp, fun i r o h => by simp at h, fun i hi => by omega, fun _ _ => rfl, o, ct', dep', Mc', d, v, rfl, by simpa [sl] using h1, h2, by simpa [sl] using h3, by simpa [cl] using h4, h5, h6, by simpa [sl] using h7⟩
  | k + 1, o :: rest, S, M, hk, h => by
    obtain ⟨r, M1, hM1, h1, h2⟩ := h
    obtain ⟨rs, MI, k1, k2, k3, k4, k5, o', ct', dep', Mc', d, v, e1, e2, e3, e4, e5, e6, e7, e8⟩ := RunC.recs (by omega) h2
    refine ⟨r :: rs, fun i => match i with | 0 => M1 | i + 1 => MI i, by simp [k1], by simp; omega, fun i r' o' hr ho => ?_, fun i hi => ?_, fun i hi => ?_, o', ct', dep', Mc', d, v, by simpa using e1, by simpa [sl] using e2, e3, by simpa [sl] using e4, by simpa [cl] using e5, e6, e7, by simpa [sl] using e8⟩
    · cases i with
      | zero => simp at hr ho; subst hr ho; simpa [sl, cl] using h1
      | succ i => simpa [sl, cl] using k3 i r' o' (by simpa using hr) (by simpa using ho)
    · cases i with
      | zero => simpa using hM1
      | succ i =>
        have := k4 i (by omega)
        rw [show q - k + i = q - (k + 1) + (i + 1) by omega] at this
        exact this
    · cases i with
      | zero => omega
      | succ i => exact k5 i (by omega)
/-- **A REGION THAT DRAWS ITS ORDER AND STORES**: 'q' operations in whatever order, a store as soon as what it waits for is there; the others behind them all. -/
theorem Tr.drawC {id : Nat} (q u : Nat) {MA : Conts} [hA : UpM M u cAny [] MA] (hm : P.follows .mixedOrders = true) (chk : drawOk l (q + 1) = true) (h : RunC P c l Q u M MA q l q S M) : Tr P c S M (.region id l.toArray true) Q := by
  intro a g w hs0
  have hs := hs0.drew
  obtain ⟨rs, MI, hlen, hml, hst, hMI, hMI', os, ct', dep', Mc', d, v, hos, ⟨hod, hlk, hdn⟩, hog, hstore, hup, hcd, hdm, htail⟩ := RunC.recs (Nat.le_refl _) h
  have hd := DrawOk.of chk
  obtain ⟨hlS, hlr⟩ := look_sl hlk
  have hs2 : Sat c S M (a.put (some d) v) g w.drew := hs.putx hlS hdn
  have hpd : (a.put (some d) v).tmps.getD d undef = v := getD_put_same (by rw [hs.size]; exact hdn)
  have hAt : Fl.tags MA = tags M := hA.tags
  have hMt : ∀ i t, t ∈ tags (MI i) ↔ t ∈ tags M := fun i t => by
    by_cases hi : i < q
    · rcases hMI i hi with e | ⟨e, _⟩ <;> rw [e]; rw [hAt]
    · rw [hMI' i (by omega), hAt]
  let Mx : Conts := ⟨u, dep', ct'⟩ :: M.filter (fun e => !(e.t == u))
  have hx1 : ⟨u, dep', ct'⟩ ∈ Mx := List.mem_cons_self
  have hx2 : ∀ e ∈ M, e.t ≠ u → e ∈ Mx := fun e he hne => List.mem_cons_of_mem _ (List.mem_filter.2 ⟨he, by simpa using hne⟩)
  have hxt : ∀ t, t ∈ tags M → t ∈ tags Mx := fun t ht => by
    obtain ⟨e, he, rfl⟩ := List.mem_map.1 ht
    by_cases hu : e.t = u
    · exact List.mem_map.2 ⟨_, hx1, hu.symm⟩
    · exact List.mem_map.2 ⟨e, hx2 e he hu, rfl⟩
  have hxd : ContsDep Mx Mx := fun e he => by
    rcases List.mem_cons.1 he with rfl | he
    · exact ⟨hcd, fun t ht => hxt t (hdm t ht)⟩
    · have := (List.mem_filter.1 he).1
      exact ⟨(hs.cdep e this).1, fun t ht => hxt t ((hs.cdep e this).2 t ht)⟩
  have hMA : ∀ g w, ContsHold M g w → ContsHold MA g w := fun g w hc e he => by
    rcases hA.mem hs.nodup e he with rfl | ⟨he, _⟩
    · obtain ⟨b, hb⟩ := hc.tag hA.tag; exact ⟨b, hb, trivial⟩
    · exact hc e he
  have hxA : ∀ g w, ContsHold Mx g w → ContsHold MA g w := fun g w hc e he => by
    rcases hA.mem hs.nodup e he with rfl | ⟨he, hne⟩
    · obtain ⟨b, hb, _⟩ := hc _ hx1; exact ⟨b, hb, trivial⟩
    · exact hc e (hx2 e he hne)
  have hnews : News M rs := by
    have hin : ∀ (i : Nat) (r : Rec), rs[i]? = some r → ∃ o, StOk P c l.toArray (MI i) (sl S (rs.take i)) (cl M (rs.take i)) o r := fun i r hr =>
      ⟨_, hst i r _ hr (List.getElem?_eq_getElem (by have := (List.getElem?_eq_some_iff.1 hr).1; omega))⟩
    have hlt : ∀ (i j : Nat) (r r' : Rec) (e e' : CE), i < j → rs[i]? = some r → rs[j]? = some r' → r.new = some e → r'.new = some e' → e.t ≠ e'.t := fun i j r r' e e' hij hi hj he he' ht => by
      obtain ⟨o, st⟩ := hin j r' hj
      refine (st.new e' he').2.2 (List.mem_map.2 ⟨e, (cl_mem _).2 (.inr ⟨i, r, ?_, he⟩), ht⟩)
      rw [List.getElem?_take, if_pos hij]; exact hi
    refine ⟨fun i r e hr he ht => ?_, fun i j r r' e e' hi hj he he' ht => ?_⟩
    · obtain ⟨o, st⟩ := hin i r hr
      obtain ⟨x, hx, hxt⟩ := List.mem_map.1 ht
      exact (st.new e he).2.2 (List.mem_map.2 ⟨x, (cl_mem _).2 (.inl hx), hxt⟩)
    · rcases Nat.lt_trichotomy i j with hij | rfl | hij
      · exact absurd ht (hlt i j r r' e e' hij hi hj he he')
      · rfl
      · exact absurd ht.symm (hlt j i r' r e' e hij hj hi he' he)
  have hsz0 : (Array.replicate l.length false).size = l.length := by simp
  have hqM : rs[q]? = none := List.getElem?_eq_none (by omega)
  -- behind the store
  have main2 : ∀ (f : Nat) (listed : Array Bool) (a' : Act) (g' : Gh) (w' : World), unl listed ≤ f → Ld listed q → Inv2 l c M Mx rs (a.put (some d) v) g listed a' g' w' → wpAny P .any l.toArray Q f listed a' w' := by
    intro f
    induction f with
    | zero =>
      intro listed a' g' w' hf hq hI
      have hall : ∀ i, i < l.length → Ld listed i := fun i hi => unl_zero (Nat.le_zero.1 hf) (by rw [hI.sz]; exact hi)
      have hlq : l.length = q + 1 := by
        rcases Nat.lt_or_ge (q + 1) l.length with h' | h'
        · have := hI.low _ (hall (q + 1) h'); omega
        · omega
      refine wpAny_tail hd 0 l.length listed a' w' hI.sz (fun i => ⟨fun h => by have := h.lt; rw [hI.sz] at this; exact this, hall i⟩) (by omega) (Nat.le_refl _) (by omega) ?_
      have := htail a' g' w' ((hI.sat hst hMt (by omega) hs2 hup hcd hdm hx1 hx2 (fun i hi => hall i (by omega))).slotD ((hI.base d (fun i r _ hr => hlr r (List.mem_of_getElem? hr))).trans hpd))
      rw [hlq]
      exact this
    | succ f ih =>
      intro listed a' g' w' hf hq hI
      by_cases hall : ∀ i, i < q + 1 → Ld listed i
      · have hsat := (hI.sat hst hMt (by omega) hs2 hup hcd hdm hx1 hx2 (fun i hi => hall i (by omega))).slotD ((hI.base d (fun i r _ hr => hlr r (List.mem_of_getElem? hr))).trans hpd)
        exact wpAny_tail hd (f + 1) (q + 1) listed a' w' hI.sz (fun i => ⟨fun h => by have := hI.low i h; omega, hall i⟩) (Nat.le_refl _) (by omega) (by
          have : unl listed = l.length - (q + 1) := by
            have hsplit : ∀ k, k ≤ listed.size → (listed.toList.take k).countP (fun b => !b) = k - min k (q + 1) := by
              intro k
              induction k with
              | zero => simp
              | succ k ihk =>
                intro hk
                rw [List.take_succ_eq_append_getElem (by simp; omega), List.countP_append, ihk (by omega)]
                by_cases hkm : k < q + 1
                · have h1 := hall k hkm
                  unfold Ld at h1
                  rw [Array.getElem?_eq_getElem (by omega)] at h1
                  simp only [Option.some.injEq] at h1
                  simp [h1]; omega
                · have h1 : listed[k] = false := by
                    have h2 : ¬ Ld listed k := fun h => by have := hI.low k h; omega
                    unfold Ld at h2
                    rw [Array.getElem?_eq_getElem (by omega)] at h2
                    simpa using h2
                  simp [h1]; omega
            have := hsplit listed.size (Nat.le_refl _)
            rw [List.take_of_length_le (by simp)] at this
            unfold unl
            rw [this, hI.sz]; omega
          omega) (htail a' g' w' hsat)
      · obtain ⟨q', hq'⟩ := Classical.not_forall.1 hall
        have hqm : q' < q + 1 := Classical.byContradiction fun h => hq' (fun h' => absurd h' h)
        have hql : ¬ Ld listed q' := fun h => hq' (fun _ => h)
        refine ⟨fun hr => absurd (ready_ne hd hI.sz hr q' (by omega)) hql, fun i hi => ?_⟩
        obtain ⟨hnl, o, ho, hr⟩ := (ready_mem hI.sz).1 hi
        have hil := (List.getElem?_eq_some_iff.1 ho).1
        have him : i < q + 1 := Classical.byContradiction fun hge => hql (hI.clo.ready ho hr (hd.tail q' i (by omega) hil (by omega)))
        have hiq : i < q := by
          rcases Nat.lt_or_ge i q with h' | h'
          · exact h'
          · exact absurd (show Ld listed i by rw [show i = q by omega]; exact hq) hnl
        have hMi : ContsHold (MI i) g' w' := by
          rcases hMI i hiq with e | ⟨_, ha⟩
          · rw [e]; exact hxA _ _ hI.cM
          · rw [show q - q + i = i by omega] at ha
            exact absurd (hI.clo q i hq ha) hnl
        refine hI.step hst hMt hxt hxd (by omega) hd hnews hs2 hi (by omega) hMi (fun a'' g'' w'' hI' => ih _ a'' g'' w'' ?_ ((Ld.set (by rw [hI.sz]; exact hil)).2 (.inr hq)) hI')
        have := unl_set (listed := listed) (i := i) (by rw [hI.sz]; exact hil) hnl
        omega
  -- ahead of the store
  have main : ∀ (f : Nat) (listed : Array Bool) (a' : Act) (g' : Gh) (w' : World), unl listed ≤ f → ¬ Ld listed q → Inv2 l c M M rs a g listed a' g' w' → wpAny P .any l.toArray Q f listed a' w' := by
    intro f
    induction f with
    | zero =>
      intro listed a' g' w' hf hq hI
      exact absurd (unl_zero (Nat.le_zero.1 hf) (by rw [hI.sz]; omega)) hq
    | succ f ih =>
      intro listed a' g' w' hf hq hI
      refine ⟨fun hr => absurd (ready_ne hd hI.sz hr q (by omega)) hq, fun i hi => ?_⟩
      obtain ⟨hnl, o, ho, hr⟩ := (ready_mem hI.sz).1 hi
      have hil := (List.getElem?_eq_some_iff.1 ho).1
      have hils : i < listed.size := by rw [hI.sz]; exact hil
      have him : i < q + 1 := Classical.byContradiction fun hge => hq (hI.clo.ready ho hr (hd.tail q i (by omega) hil (by omega)))
      have hun := unl_set (listed := listed) (i := i) hils hnl
      by_cases hiq : i < q
      · have hMi : ContsHold (MI i) g' w' := by
          rcases hMI i hiq with e | ⟨e, _⟩
          · rw [e]; exact hMA _ _ hI.cM
          · rw [e]; exact hI.cM
        exact hI.step hst hMt (fun _ h => h) hs.cdep (by omega) hd hnews hs hi (by omega) hMi (fun a'' g'' w'' hI' => ih _ a'' g'' w'' (by omega) (fun h' => by
          rcases (Ld.set hils).1 h' with e | h'
          · omega
          · exact hq h') hI')
      · obtain rfl : i = q := by omega
        obtain rfl : o = os := Option.some.inj (ho.symm.trans hos)
        have hlook := hI.look hst (by omega) hd hs ho hnl hr
        rw [show rs.take i = rs from List.take_of_length_le (by omega)] at hlook
        have hops : OpsHold (sl S rs) o a' g' := by
          intro x hx b k hxk hb
          cases x with
          | tmp t => exact (hlook t (List.mem_append.2 (.inl (List.mem_filterMap.2 ⟨.tmp t, by simpa using hx, rfl⟩))) b k hxk).1 hb
          | const v => cases hxk; rfl
          | global v => cases hxk; rfl
          | func v => cases hxk; rfl
        unfold wpOp
        rw [List.getElem?_toArray, ho]
        simp only
        rw [if_pos (by simp [Region.wanted, hog])]
        refine .inl (Oper.wp_on (hstore a' g' w' hI.ok hI.cM hops) ?_)
        rintro a'' w'' ⟨rfl, hdid⟩
        refine main2 f _ (a'.put (some d) v) g' w'' (by omega) ((Ld.set hils).2 (.inl rfl)) ?_
        have hsub : ∀ j r, Ld (listed.setIfInBounds i true) j → rs[j]? = some r → Ld listed j := fun j r hj hr => by
          rcases (Ld.set hils).1 hj with rfl | hj
          · rw [hqM] at hr; cases hr
          · exact hj
        refine ⟨by simpa using hI.sz, hdid.ok hI.ok, hI.le, ?_, hI.clo.set hils ho hr, fun j hj => ?_, hI.defers, by simp [Act.put, hI.size], fun t ht => ?_, fun j r hr hj hlat => by rw [getD_put_other (fun e => hlr r (List.mem_of_getElem? hr) e.symm)]; exact hI.cur j r hr (hsub j r hj hr) (fun i' r' hlt hli hr' => hlat i' r' hlt ((Ld.set hils).2 (.inr hli)) hr'), fun j r e hj hr he => ?_, fun t ht => ?_⟩
        · intro e he
          rcases List.mem_cons.1 he with rfl | he
          · obtain ⟨b, cap, ob, hm', _, _, _, _, _, hob, hct⟩ := hdid.ex
            exact ⟨_, hm', by simp only [World.objAt, hob]; exact hct⟩
          · have hm' := List.mem_filter.1 he
            obtain ⟨bk, h1, h2⟩ := hI.cM e hm'.1
            refine ⟨bk, h1, ?_⟩
            rw [hdid.other hI.ok (by simpa using hm'.2) h1]
            exact h2
        · rcases (Ld.set hils).1 hj with rfl | hj
          · omega
          · exact hI.low j hj
        · by_cases e : d = t
          · subst e; rw [hpd, getD_put_same (by rw [hI.size]; exact hdn)]
          · rw [getD_put_other e, getD_put_other e]
            exact hI.base t (fun j r hj hr => ht j r ((Ld.set hils).2 (.inr hj)) hr)
        · obtain ⟨bk, h1, h2⟩ := hI.made j r e (hsub j r hj hr) hr he
          refine ⟨bk, h1, ?_⟩
          rw [hdid.other hI.ok (fun hu => hnews.fresh j r e hr he (by rw [hu]; exact hA.tag)) h1]
          exact h2
        · rcases hI.dom t ht with h1 | ⟨j, r, e, hj, hr, he, ht'⟩
          · exact .inl h1
          · exact .inr ⟨j, r, e, (Ld.set hils).2 (.inr hj), hr, he, ht'⟩
  refine wp_region_any hm (main _ _ a g w.drew ?_ (fun hi => ?_) ⟨by simp, hs.ok, Gh.le_refl _, hs.conts, fun i j hi => ?_, fun i hi => ?_, hs.defers, hs.size, fun _ _ => rfl, fun i r hr hi => ?_, fun i r e hi => ?_, fun t ht => .inl ht⟩)
  · unfold unl
    refine Nat.le_trans (List.countP_le_length) ?_
    simp
  all_goals
    unfold Ld at hi
    rw [Array.getElem?_eq_some_iff] at hi
    obtain ⟨_, hi⟩ := hi
    simp at hi
/-! ### The steps -/
variable {M0 MA Mc : Conts} {rest : List Oper} {d : Nat} {oop : Op} {ty : TypeId} {pos : String} {af : Array Edge} {q u k' : Nat} {x y : Operand}
theorem RunC.op {k : Know} {dep : List Nat} (h : OpOk P c S MA ⟨some d, oop, ty, pos, af, none⟩ true k none) [hk : KDep k dep] (hs : subT dep (tags MA) = true) (hn : Nat.blt d c.n = true)
    (K : RunC P c l Q u M MA q rest k' (⟨d, true, dep, k⟩ :: S) Mc) : RunC P c l Q u M MA q (⟨some d, oop, ty, pos, af, none⟩ :: rest) (k' + 1) S Mc :=
  ⟨⟨d, true, dep, k, none⟩, MA, .inl rfl, ⟨rfl, h, hk, fun t ht => .inl (subT_spec hs t ht), fun _ h => (by cases h), by simpa [Nat.blt_eq] using hn, .inl ⟨rfl, rfl⟩⟩, K⟩
theorem RunC.opA {k : Know} {dep : List Nat} (h : OpOk P c S M ⟨some d, oop, ty, pos, af, none⟩ true k none) (ha : anc l q (q - (k' + 1)) = true) [hk : KDep k dep] (hs : subT dep (tags M) = true) (hn : Nat.blt d c.n = true)
    (K : RunC P c l Q u M MA q rest k' (⟨d, true, dep, k⟩ :: S) Mc) : RunC P c l Q u M MA q (⟨some d, oop, ty, pos, af, none⟩ :: rest) (k' + 1) S Mc :=
  ⟨⟨d, true, dep, k, none⟩, M, .inr ⟨rfl, ha⟩, ⟨rfl, h, hk, fun t ht => .inl (subT_spec hs t ht), fun _ h => (by cases h), by simpa [Nat.blt_eq] using hn, .inl ⟨rfl, rfl⟩⟩, K⟩
theorem RunC.new {k : Know} {dep : List Nat} {t : Nat} {ct : Cont} {cdep : List Nat} (h : OpOk P c S MA ⟨some d, oop, ty, pos, af, none⟩ true k (some ⟨t, cdep, ct⟩)) [hk : KDep k dep] [hc : CDep ct cdep]
    (hs : subT dep (tags (⟨t, cdep, ct⟩ :: MA)) = true) (hcs : subT cdep (tags (⟨t, cdep, ct⟩ :: MA)) = true) (hf : subT [t] (tags Mc) = false) (hn : Nat.blt d c.n = true)
    (K : RunC P c l Q u M MA q rest k' (⟨d, true, dep, k⟩ :: S) (⟨t, cdep, ct⟩ :: Mc)) : RunC P c l Q u M MA q (⟨some d, oop, ty, pos, af, none⟩ :: rest) (k' + 1) S Mc :=
  ⟨⟨d, true, dep, k, some ⟨t, cdep, ct⟩⟩, MA, .inl rfl, ⟨rfl, h, hk, fun t ht => .inl (subT_spec hs t ht), fun e he => (by
    cases he
    refine ⟨hc, subT_spec hcs, fun ht => ?_⟩
    have : subT [t] (tags Mc) = true := by
      simp only [subT, Bool.and_true]
      exact List.any_eq_true.2 ⟨t, ht, Nat.beq_refl t⟩
    rw [hf] at this; cases this), by simpa [Nat.blt_eq] using hn, .inl ⟨rfl, rfl⟩⟩, K⟩
theorem RunC.newA {k : Know} {dep : List Nat} {t : Nat} {ct : Cont} {cdep : List Nat} (h : OpOk P c S M ⟨some d, oop, ty, pos, af, none⟩ true k (some ⟨t, cdep, ct⟩)) (ha : anc l q (q - (k' + 1)) = true) [hk : KDep k dep] [hc : CDep ct cdep]
    (hs : subT dep (tags (⟨t, cdep, ct⟩ :: M)) = true) (hcs : subT cdep (tags (⟨t, cdep, ct⟩ :: M)) = true) (hf : subT [t] (tags Mc) = false) (hn : Nat.blt d c.n = true)
    (K : RunC P c l Q u M MA q rest k' (⟨d, true, dep, k⟩ :: S) (⟨t, cdep, ct⟩ :: Mc)) : RunC P c l Q u M MA q (⟨some d, oop, ty, pos, af, none⟩ :: rest) (k' + 1) S Mc :=
  ⟨⟨d, true, dep, k, some ⟨t, cdep, ct⟩⟩, M, .inr ⟨rfl, ha⟩, ⟨rfl, h, hk, fun t ht => .inl (subT_spec hs t ht), fun e he => (by
    cases he
    refine ⟨hc, subT_spec hcs, fun ht => ?_⟩
    have : subT [t] (tags Mc) = true := by
      simp only [subT, Bool.and_true]
      exact List.any_eq_true.2 ⟨t, ht, Nat.beq_refl t⟩
    rw [hf] at this; cases this), by simpa [Nat.blt_eq] using hn, .inl ⟨rfl, rfl⟩⟩, K⟩
theorem RunC.z {ct' : Cont} {dep' : List Nat} {Mc' : Conts} {o : Oper} {v : Value} (h : MutOk P c S M o u ct' d v) (hd : o.dst = some d) (hl : look S d = none) (hn : Nat.blt d c.n = true) (hg : o.guard = none) [hup : UpM Mc u ct' dep' Mc'] [hc : CDep ct' dep'] (hs : subT dep' (tags M) = true) (K : TrL P c l.toArray (⟨d, true, [], kDet v⟩ :: S) Mc' rest Q) : RunC P c l Q u M MA q (o :: rest) 0 S Mc :=
  ⟨ct', dep', Mc', d, v, ⟨hd, hl, by simpa [Nat.blt_eq] using hn⟩, hg, h, hup, hc, subT_spec hs, K⟩
end
end Go.Fl

/- Slices of one's own row and 'copy' into it (elements: integers). No program in sight. -/
namespace Go.Fl
open Go Go.RowKit
section
variable {P : Program} {c : Ctx} {S : Slots} {M : Conts} {p : Bool} {d : Option Tmp} {ty : TypeId} {pos : String} {af : Array Edge} {gd : Option (Nat × Bool)} {x y : Operand} {b b' : Bool}
theorem osl_blk {u len : Nat} {g : Gh} {v : Value} (h : kOsl u len g v) (h0 : 0 < len) : ∃ b cap, g.M u = some (.blk b cap) ∧ v = .slice (some ⟨b, 0, none⟩) len cap := by
  rcases h with ⟨_, h1, _⟩ | h
  · omega
  · exact h
/-- 'r[l:]' of one's own row; a row's room is asked ('cap'), which what it holds says. -/
theorem ok_slOl {t et : TypeId} [ht : TySl P t et] {by' : Nat} {zz : Value} [hz : TySz P et 1 by' zz] {u len len' : Nat} {dep : List Nat} {α : Type} {z : Bool} {e : Enc α} {xs : List α} {i : Nat} [hl : LkM M u (cArr z et e xs len') dep] (hx : opK S x = some (b, kOsl u len)) (hb : p = true → b = true) (hy : opK S y = some (b', kI i)) (hb' : p = true → b' = true)
    (h : p = true → i < len ∧ len = len') : OpOk P c S M ⟨d, .slice t x (some y) none none, ty, pos, af, gd⟩ p (kOsq u 1 i (len - i)) none :=
  OpOk.pure fun hp a g w _ hc ho => by
    have hi : a.eval y = _ := ho y (by simp [Op.operands]) b' _ hy (hb' hp)
    have hlt := h hp
    obtain ⟨bk, cap, h1, h2⟩ := osl_blk (ho x (by simp [Op.operands]) b _ hx (hb hp)) (by omega)
    obtain ⟨bk2, hm2, hobj⟩ := hc _ hl.mem
    simp only at hm2 hobj
    rw [h1] at hm2; cases hm2
    obtain ⟨_, _, cs, _, _, hcap, _⟩ := hobj
    obtain ⟨j, hj, hj1, rfl, _⟩ := hz.h
    refine ⟨.slice (some ⟨bk, i, none⟩) (len - i) (cap - i), ?_, bk, cap, i, h1, by omega, fun _ => by omega, rfl⟩
    have hun : P.underlying t = some (.slice (P.elem t)) := by rw [ht.h]; simp [Program.elem, ht.h]
    have hel : P.elem t = et := by simp [Program.elem, ht.h]
    simp only [execOp, h2, hi, Option.map]
    rw [Sem.run_bind, run_sliceAt_slice w t _ _ _ _ hun, run_slice_l w t _ len cap hun .i64 i (by omega) (by omega), hel]
    have hsz : (sizeOf et).run P w = .ok j.size w := by simp [sizeOf, typeInfo, hj]
    simp only [Result.andThen_ok, Sem.run_pure, hsz, sliced, Option.map, Addr.add_lit]
    simp only [Int.toNat_natCast, hj1, Nat.mul_one, Nat.zero_add]
    rw [if_neg (by omega)]
/-- 'r[:h]' of one's own row. -/
theorem ok_slOh {t et : TypeId} [ht : TySl P t et] {by' : Nat} {zz : Value} [hz : TySz P et 1 by' zz] {u len len' : Nat} {dep : List Nat} {α : Type} {z : Bool} {e : Enc α} {xs : List α} {i : Nat} [hl : LkM M u (cArr z et e xs len') dep] (hx : opK S x = some (b, kOsl u len)) (hb : p = true → b = true) (hy : opK S y = some (b', kI i)) (hb' : p = true → b' = true)
    (h : p = true → i < len ∧ len = len') : OpOk P c S M ⟨d, .slice t x none (some y) none, ty, pos, af, gd⟩ p (kOsq u 1 0 i) none :=
  OpOk.pure fun hp a g w _ hc ho => by
    have hi : a.eval y = _ := ho y (by simp [Op.operands]) b' _ hy (hb' hp)
    have hlt := h hp
    obtain ⟨bk, cap, h1, h2⟩ := osl_blk (ho x (by simp [Op.operands]) b _ hx (hb hp)) (by omega)
    obtain ⟨bk2, hm2, hobj⟩ := hc _ hl.mem
    simp only at hm2 hobj
    rw [h1] at hm2; cases hm2
    obtain ⟨_, _, cs, _, _, hcap, _⟩ := hobj
    obtain ⟨j, hj, hj1, rfl, _⟩ := hz.h
    refine ⟨.slice (some ⟨bk, 0, none⟩) i cap, ?_, bk, cap, 0, h1, by omega, fun _ => by omega, rfl⟩
    have hun : P.underlying t = some (.slice (P.elem t)) := by rw [ht.h]; simp [Program.elem, ht.h]
    have hel : P.elem t = et := by simp [Program.elem, ht.h]
    simp only [execOp, h2, hi, Option.map]
    rw [Sem.run_bind, run_sliceAt_slice w t _ _ _ _ hun, run_slice_h w t _ len cap hun .i64 i (by omega) (by omega), hel]
    have hsz : (sizeOf et).run P w = .ok j.size w := by simp [sizeOf, typeInfo, hj]
    simp only [Result.andThen_ok, Sem.run_pure, hsz, sliced, Option.map, Addr.add_lit]
    simp
end
def cpy (xs ys : List Int) (off m : Nat) : List Int := xs.take off ++ ys.take m ++ xs.drop (off + m)
theorem cpy_len {xs ys : List Int} {off m : Nat} (h1 : off + m ≤ xs.length) (h2 : m ≤ ys.length) : (cpy xs ys off m).length = xs.length := by
  unfold cpy; simp; omega
theorem cpy_at {xs ys : List Int} {off m i : Nat} (h1 : off + m ≤ xs.length) (h2 : m ≤ ys.length) : (cpy xs ys off m)[i]? = if i < off then xs[i]? else if i < off + m then ys[i - off]? else xs[i]? := by
  unfold cpy
  rw [List.append_assoc, List.getElem?_append, List.length_take, show min off xs.length = off by omega]
  split
  · rename_i h; rw [List.getElem?_take, if_pos h]
  · rw [List.getElem?_append, List.length_take, show min m ys.length = m by omega]
    split
    · rename_i h3; rw [if_pos (by omega), List.getElem?_take, if_pos h3]
    · rw [if_neg (by omega), List.getElem?_drop, show off + m + (i - off - m) = i by omega]
/-- The cells of a row, when others are written over some of them. -/
theorem cells_over {cs : Array Value} {vs : List Value} {off : Nat} (h : off + vs.length ≤ cs.size) (i : Nat) :
    (cs.toList.take off ++ vs ++ cs.toList.drop (off + vs.length)).toArray[i]? = if i < off then cs[i]? else if i < off + vs.length then vs[i - off]? else cs[i]? := by
  rw [List.getElem?_toArray, List.append_assoc, List.getElem?_append, List.length_take, Array.length_toList, show min off cs.size = off by omega]
  split
  · rename_i h1; rw [List.getElem?_take, if_pos h1, Array.getElem?_toList]
  · rw [List.getElem?_append]
    split
    · rw [if_pos (by omega)]
    · rw [if_neg (by omega), List.getElem?_drop, Array.getElem?_toList, show off + vs.length + (i - off - vs.length) = i by omega]
theorem arrI_cells {z : Bool} {ty : TypeId} {xs : List Int} {len b cap : Nat} {g : Gh} {o : Option Obj} (h : cArr z ty eI xs len g (.blk b cap) o) : xs.length = len ∧ (z = true → len ≠ 0) ∧ ∃ cs : Array Value, o = some (.cells cs ty (0, 0)) ∧ cs.size = cap ∧ len ≤ cap ∧ cap ≤ maxLen ∧ ∀ (i : Nat) x, xs[i]? = some x → cs[i]? = some (.int .i64 x) := by
  obtain ⟨h0, hz, cs, h1, h2, h3, h4, h5⟩ := h
  refine ⟨h0, hz, cs, h1, by simpa [eI, eInt] using h2, h3, h4, fun i x hx => ?_⟩
  obtain ⟨ds, q1, q2⟩ := h5 i x hx
  have q1 : ds = [.int .i64 x] := q1
  subst q1
  simpa [eI, eInt] using q2 0 _ rfl
theorem arrI_mk {z : Bool} {ty : TypeId} {xs : List Int} {len b cap : Nat} {g : Gh} {cs : Array Value} (h0 : xs.length = len) (hz : z = true → len ≠ 0) (h2 : cs.size = cap) (h3 : len ≤ cap) (h4 : cap ≤ maxLen) (h5 : ∀ (i : Nat) x, xs[i]? = some x → cs[i]? = some (.int .i64 x)) : cArr z ty eI xs len g (.blk b cap) (some (.cells cs ty (0, 0))) :=
  ⟨h0, hz, cs, rfl, by simpa [eI, eInt] using h2, h3, h4, fun i x hx => ⟨[.int .i64 x], rfl, fun j v hj => by
    rcases j with _ | j
    · simp at hj; subst hj; simpa [eI, eInt] using h5 i x hx
    · simp at hj⟩⟩
section
variable {P : Program} {c : Ctx} {S : Slots} {M : Conts} {ty : TypeId} {pos : String} {af : Array Edge} {x y : Operand} {d : Nat}
/-- The head of a row is copied behind. -/
theorem cp_OO {t et : TypeId} [ht : TySl P t et] {by' : Nat} {zz : Value} [hz : TySz P et 1 by' zz] {u off l1 l2 len : Nat} {z : Bool} {xs : List Int} {dep : List Nat} (m : Nat) (hx : opK S x = some (true, kOsq u 1 off l1)) (hy : opK S y = some (true, kOsq u 1 0 l2)) [hl : LkM M u (cArr z et eI xs len) dep]
    (h1 : off + l1 = len) (h2 : l2 ≤ len) (h3 : 0 < l1) (hm : m = min l2 l1) : MutOk P c S M ⟨some d, .call { callee := .builtin .copy, args := #[x, y], argTypes := #[t, t] }, ty, pos, af, none⟩ u (cArr z et eI (cpy xs xs off m) len) d (.int .i64 m) := by
  intro a g w hok hc ho
  obtain ⟨b, cap, o, e1, e2, e3, e4⟩ := ho x (by simp [Op.operands, Call.operands]) true _ hx rfl
  obtain ⟨b', cap', o', f1, f2, f3, f4⟩ := ho y (by simp [Op.operands, Call.operands]) true _ hy rfl
  rw [e1] at f1; cases f1
  obtain ⟨bk2, hm2, hobj⟩ := hc _ hl.mem
  simp only at hm2 hobj
  rw [e1] at hm2; cases hm2
  obtain ⟨a0, a1, cs, a2, a3, a4, a5, a6⟩ := arrI_cells hobj
  have ho1 := e3 (by omega)
  have ho2 := f3 (by omega)
  rw [Nat.mul_one] at ho1 ho2
  subst ho1 ho2
  obtain ⟨j, hj, hj1, rfl, _⟩ := hz.h
  have hm' : m ≤ l1 ∧ m ≤ l2 := by omega
  have hb : w.heap[b]? = some (.cells cs et (0, 0)) := a2
  have hvl : ((xs.take m).map (Value.int .i64)).length = m := by simp; omega
  have hr := run_copy_row (P := P) w t t ty et b o l1 (cap - o) ⟨b, 0, none⟩ l2 (cap - 0) cs et ((xs.take m).map (Value.int .i64)) ht.h (by rw [hj]; simp [hj1]) hb (by rw [hvl, hm])
    (fun i v hv => by
      rw [List.getElem?_map, List.getElem?_take] at hv
      split at hv
      · rename_i hi
        cases hxi : xs[i]? with
        | none => rw [hxi] at hv; cases hv
        | some q =>
          rw [hxi] at hv
          simp only [Option.map_some, Option.some.injEq] at hv
          subst hv
          have hadd : (⟨b, 0, none⟩ : Addr).add i = ⟨b, i, none⟩ := by unfold Addr.add; split <;> simp_all
          rw [hadd]
          simp only [World.cell?, hb]
          simpa using a6 i q hxi
      · cases hv) (by rw [hvl]; omega) (fun v hv => by obtain ⟨q, _, rfl⟩ := List.mem_map.1 hv; rfl)
  unfold Oper.wp
  simp only [execOp, resolve, Sem.run_bind, Sem.run_pure, Result.andThen_ok, invoke, builtin, List.map_toArray, List.map_cons, List.map_nil]
  rw [e4, f4, show (#[Value.slice (some ⟨b, o, none⟩) l1 (cap - o), Value.slice (some ⟨b, 0, none⟩) l2 (cap - 0)] : Array Value) = #[.slice (some ⟨b, o, none⟩) l1 (cap - o), .slice (some ⟨b, 0, none⟩) l2 (cap - 0)] from rfl, hr]
  simp only [Result.andThen_ok, Oper.upon, hvl]
  refine ⟨rfl, ⟨b, cap, _, e1, rfl, rfl, rfl, by simp, fun k hk => setRow_other w b k _ hk, setRow_heap w b cs _ et (0, 0) hb, ?_⟩⟩
  rw [← hvl]
  have hov := cells_over (cs := cs) (vs := (xs.take m).map (Value.int .i64)) (off := o) (by rw [hvl]; omega)
  rw [hvl] at hov ⊢
  refine arrI_mk ((cpy_len (by omega) (by omega)).trans a0) a1 ?_ a4 a5 fun i q hq => ?_
  · simp; omega
  · rw [hov i]
    rw [cpy_at (by omega) (by omega)] at hq
    split
    · rename_i hi; rw [if_pos hi] at hq; exact a6 i q hq
    · rename_i hi; rw [if_neg hi] at hq
      split
      · rename_i hi2; rw [if_pos hi2] at hq
        rw [List.getElem?_map, List.getElem?_take, if_pos (by omega), hq]; rfl
      · rename_i hi2; rw [if_neg hi2] at hq; exact a6 i q hq
variable {ops : Array Oper} {rest : List Oper} {Q : Exit → Act → World → Prop}
/-- A list is copied onto the head of a row. -/
theorem TrL.cpJ {t et : TypeId} [ht : TySl P t et] {by' : Nat} {zz : Value} [hz : TySz P et 1 by' zz] {u len len' : Nat} {z : Bool} {xs ys : List Int} {dep : List Nat} {M' : Conts} (m : Nat) (hx : opK S x = some (true, kOsl u len)) (hy : opK S y = some (true, kRd (eL eI) ys)) [hl : LkM M u (cArr z et eI xs len') dep]
    (h1 : len = len') (h2 : 0 < len) (h3 : 0 < ys.length) (hm : m = min ys.length len) [hup : UpM M u (cArr z et eI (cpy xs ys 0 m) len') [] M'] (hn : Nat.blt d c.n = true)
    (K : TrL P c ops (⟨d, true, [], kI m⟩ :: S) M' rest Q) : TrL P c ops S M (⟨some d, .call { callee := .builtin .copy, args := #[x, y], argTypes := #[t, t] }, ty, pos, af, none⟩ :: rest) Q := by
  intro a g w hsat
  have hdn : d < c.n := by simpa [Nat.blt_eq] using hn
  obtain ⟨b, cap, e1, e4⟩ := osl_blk (opK_holds hsat.slots hx rfl) h2
  obtain ⟨cs0, ⟨ad, cp, k1, k2, k3⟩, hv⟩ := opK_holds hsat.slots hy rfl
  subst k1
  have hv : a.eval y = .slice ad ys.length cp := hv
  rcases k3 with k3 | ⟨b2, o2, rfl, hrow⟩
  · subst k3; simp at h3
  obtain ⟨bk2, hm2, hobj⟩ := hsat.conts _ hl.mem
  simp only at hm2 hobj
  rw [e1] at hm2; cases hm2
  obtain ⟨a0, a1, cs, a2, a3, a4, a5, a6⟩ := arrI_cells hobj
  obtain ⟨j, hj, hj1, rfl, _⟩ := hz.h
  have hb : w.heap[b]? = some (.cells cs et (0, 0)) := a2
  have hvl : ((ys.take m).map (Value.int .i64)).length = m := by simp; omega
  have hr := run_copy_row (P := P) w t t ty et b 0 len cap ⟨b2, o2, none⟩ ys.length cp cs et ((ys.take m).map (Value.int .i64)) ht.h (by rw [hj]; simp [hj1]) hb (by rw [hvl, hm])
    (fun i v hv => by
      rw [List.getElem?_map, List.getElem?_take] at hv
      split at hv
      · rename_i hi
        cases hxi : ys[i]? with
        | none => rw [hxi] at hv; cases hv
        | some q =>
          rw [hxi] at hv
          simp only [Option.map_some, Option.some.injEq] at hv
          subst hv
          have hadd : (⟨b2, o2, none⟩ : Addr).add i = ⟨b2, o2 + i, none⟩ := by unfold Addr.add; split <;> simp_all
          rw [hadd]
          obtain ⟨ds, q1, q2⟩ := hrow i q hxi
          have q1 : ds = [.int .i64 q] := q1
          subst q1
          have := q2 0 _ rfl
          exact hsat.ok.im _ _ _ (by simpa [eI, eInt] using this)
      · cases hv) (by rw [hvl]; omega) (fun v hv => by obtain ⟨q, _, rfl⟩ := List.mem_map.1 hv; rfl)
  refine wpList_plain rfl fun K' hK' => ?_
  unfold Oper.wp
  simp only [execOp, resolve, Sem.run_bind, Sem.run_pure, Result.andThen_ok, invoke, builtin, List.map_toArray, List.map_cons, List.map_nil]
  rw [e4, hv, hr]
  simp only [Result.andThen_ok, Oper.upon, hvl]
  have hbut : ∀ r, But (.blk b cap) w (w.setRow b r) := fun r => ⟨rfl, rfl, rfl, by simp, fun k _ hne => setRow_other w b k r (fun e => hne cap (by rw [e]))⟩
  refine hK' _ _ (K _ ⟨g.J, g.M⟩ _ (hsat.mut e1 (hbut _) (JV.le_refl _) (fun _ _ _ => rfl) ?_ hup inferInstance ?_ hdn rfl))
  · exact fun b' o v hv => by
      have := hsat.ok.im b' o v hv
      rw [World.cell?_of_block (w := w) (setRow_other w b b' _ (fun e => by subst e; have := (hsat.ok.own u _ cap e1).2.2 o; rw [this] at hv; cases hv))]
      exact this
  · rw [setRow_heap w b cs _ et (0, 0) hb]
    have hov := cells_over (cs := cs) (vs := (ys.take m).map (Value.int .i64)) (off := 0) (by rw [hvl]; omega)
    rw [hvl] at hov
    refine arrI_mk ((cpy_len (by omega) (by omega)).trans a0) a1 ?_ a4 a5 fun i q hq => ?_
    · simp; omega
    · rw [hov i]
      rw [cpy_at (by omega) (by omega)] at hq
      split
      · omega
      · rename_i hi; rw [if_neg hi] at hq
        split
        · rename_i hi2; rw [if_pos hi2] at hq
          rw [List.getElem?_map, List.getElem?_take, if_pos (by omega), hq]; rfl
        · rename_i hi2; rw [if_neg hi2] at hq; exact a6 i q hq
end
end Go.Fl

/- Contracts: the library, the base, the reference of chapter 6. -/
namespace Go.Fl
open Go Go.Proofs


theorem ct_bitsMul (x y : Nat) (hx : x < 4294967296) (hy : y < 4294967296) : Ct Try.prog 125 [kInt .u64 x, kInt .u64 y] (kTup [kInt .u64 0, kInt .u64 (x * y : Nat)]) := by
  have hxy : x * y < 18446744073709551616 := by
    have : x * y ≤ 4294967295 * 4294967295 := Nat.mul_le_mul (by omega) (by omega)
    omega
  have := Ct.det (P := Try.prog) (f := 125) (us := [.int .u64 x, .int .u64 y]) fun w => (Any.bits_Mul Try.lays212 x y (by omega) (by omega) w).mono fun e w' ⟨h1, h2⟩ => ⟨h1, by subst h2; exact ⟨rfl, rfl, rfl, Nat.le_refl _, fun _ _ => rfl⟩⟩
  rw [Nat.div_eq_of_lt hxy, Nat.mod_eq_of_lt hxy] at this
  intro w J him vs hvs
  refine (this w J him vs hvs).mono fun e w' ⟨r, J', h1, h2, h3, h4, h5, h6⟩ => ⟨r, J', h1, h2, h3, h4, h5, ?_⟩
  exact ⟨[.int .u64 0, .int .u64 (x * y : Nat)], by rw [h6]; rfl, rfl, rfl, trivial⟩
def rowN (z : Int) (len n : Nat) : List Int := List.replicate n z ++ List.replicate (len - n) 0
theorem rowN_len {z : Int} {len n : Nat} (h : n ≤ len) : (rowN z len n).length = len := by unfold rowN; simp; omega
theorem rowN_at {z : Int} {len n i : Nat} (h : n ≤ len) : (rowN z len n)[i]? = if i < n then some z else if i < len then some 0 else none := by
  unfold rowN
  rw [List.getElem?_append, List.length_replicate]
  split
  · rename_i h1; rw [List.getElem?_replicate, if_pos h1]
  · rw [List.getElem?_replicate]
    by_cases h2 : i < len
    · rw [if_pos h2, if_pos (by omega)]
    · rw [if_neg h2, if_neg (by omega)]
theorem rowN_cpy {z : Int} {len n m : Nat} (h : n ≤ len) (hm : m = min n (len - n)) : cpy (rowN z len n) (rowN z len n) n m = rowN z len (n + m) := by
  have hl := rowN_len (z := z) h
  refine List.ext_getElem? fun i => ?_
  rw [cpy_at (by omega) (by omega), rowN_at (n := n + m) (by omega), rowN_at (n := n) h]
  by_cases h1 : i < n
  · rw [if_pos h1, if_pos h1, if_pos (by omega)]
  · rw [if_neg h1, if_neg h1]
    by_cases h2 : i < n + m
    · rw [if_pos h2, if_pos h2, rowN_at h, if_pos (by omega)]
    · rw [if_neg h2, if_neg h2]
theorem rowN_one {z : Int} {len : Nat} (h : 0 < len) : cpy (List.replicate len 0) [z] 0 1 = rowN z len 1 := by
  refine List.ext_getElem? fun i => ?_
  rw [cpy_at (by simp; omega) (by simp), rowN_at (by omega), List.getElem?_replicate]
  by_cases h1 : i < 1
  · obtain rfl : i = 0 := by omega
    simp
  · rw [if_neg (by omega), if_neg (by omega), if_neg h1]
theorem rowN_all {z : Int} {len : Nat} : rowN z len len = List.replicate len z := by unfold rowN; simp
theorem u64_nat {n : Nat} (h : n < 18446744073709551616) : IntKind.u64.wrap (n : Int) = n := by rw [IntKind.wrap_u64]; omega
theorem cmp1 {x y : Int} : cmpI [x] [y] = if x < y then -1 else if y < x then 1 else 0 := by
  rw [cmpI]; rfl


theorem cmp_ne {x y : Int} (h : ¬ x = y) (k : cmpI [x] [y] = 0) : False := by
  rw [cmp1] at k; split at k
  · omega
  · split at k <;> omega
theorem cmp_sw {x y : Int} (h : x ≠ y) : (if x < y then (-1 : Int) else if y < x then 1 else 0) = if x < y then -1 else 1 := by
  split
  · rfl
  · rw [if_pos (by omega)]
theorem le_of_all {a b : Nat} (h : ∀ i, i < a → i < b) : ¬ b < a := fun hh => Nat.lt_irrefl _ (h b hh)

set_option maxRecDepth 100000 in
theorem ct_Ints (a b : List Int) : Ct Try.prog 21 [kRd (eL eI) a, kRd (eL eI) b] (kB (decide (a = b))) := by
  refine Ct.mk Try.func21 rfl Try.ntmps21 rfl (fun w J => ?_)
  refine Tr.fact (s := 0) rfl (fun _ _ h => lenB h) (fun hb => ?_)
  refine Tr.seq ?_
  refine Tr.rg ?_
  refine TrL.op (ok_assign rfl (fun _ => rfl)) rfl rfl ?_
  refine TrL.fin ?_
  refine End.nxt ?_
  refine Tr.seq ?_
  refine Tr.seq ?_
  refine Tr.rg ?_
  refine TrL.op (ok_move rfl (fun _ => rfl)) rfl rfl ?_
  refine TrL.op (ok_lenJ rfl (fun _ => rfl)) rfl rfl ?_
  refine TrL.op (ok_move rfl (fun _ => rfl)) rfl rfl ?_
  refine TrL.op (ok_lenJ rfl (fun _ => rfl)) rfl rfl ?_
  refine TrL.op (ok_neq rfl (fun _ => rfl) rfl (fun _ => rfl)) rfl rfl ?_
  refine TrL.fin ?_
  refine End.nxt ?_
  refine Tr.cnd rfl ?_ ?_
  · intro h1
    replace h1 := of_decide_eq_true h1
    refine Tr.seq ?_
    refine Tr.rg ?_
    refine TrL.op (ok_assign rfl (fun _ => rfl)) rfl rfl ?_
    refine TrL.fin ?_
    refine End.nxt ?_
    refine Tr.ret ?_
    refine Rts.thn ?_
    exact Rts.res1 (fn := Try.f21) rfl (.b rfl (by symm; rw [decide_eq_false_iff_not]; intro e; exact h1 (by rw [e])) <| .nil)
  · intro h1
    replace h1 := Classical.not_not.1 (of_decide_eq_false h1)
    refine Tr.skip ?_
    refine End.nxt ?_
    refine Tr.seq ?_
    refine Tr.seq ?_
    refine Tr.rg ?_
    refine TrL.op (ok_assign rfl (fun _ => rfl)) rfl rfl ?_
    refine TrL.fin ?_
    refine End.nxt ?_
    refine Tr.for1 (σ := Nat) [⟨0, true, _, _⟩, ⟨1, true, _, _⟩] [] (fun k => [⟨5, true, [], kI (k : Int)⟩]) (fun k => []) (fun k => k ≤ a.length ∧ ∀ i, i < k → nth a i = nth b i) (fun k => a = b) (fun k => a.length - k) (0) ⟨Nat.zero_le _, fun i h => absurd h (by omega)⟩ (Ent.mk (.i rfl (by first | rfl | omega | (simp; done) | (simp; omega) | assumption) <| .k rfl rfl <| .k rfl rfl <| .nil) (.nil) rfl) ?_ ?_
    · rintro k ⟨hk0, hR0⟩
      refine Tr.norm (S' := [⟨5, true, _, _⟩, ⟨0, true, _, _⟩, ⟨1, true, _, _⟩]) (M' := []) rfl rfl ?_
      refine Tr.seq ?_
      refine Tr.seq ?_
      refine Tr.rg ?_
      refine TrL.op (ok_move rfl (fun _ => rfl)) rfl rfl ?_
      refine TrL.op (ok_move rfl (fun _ => rfl)) rfl rfl ?_
      refine TrL.op (ok_lenJ rfl (fun _ => rfl)) rfl rfl ?_
      refine TrL.op (ok_lss rfl (fun _ => rfl) rfl (fun _ => rfl)) rfl rfl ?_
      refine TrL.fin ?_
      refine End.nxt ?_
      refine Tr.cnd rfl ?_ ?_
      · intro h4
        replace h4 := of_decide_eq_true h4
        refine Tr.skip ?_
        refine End.nxt ?_
        refine Tr.seq ?_
        refine Tr.blk ?_
        refine Tr.seq ?_
        refine Tr.draw 8 mixed (by kernel_rfl) ?_
        refine RunD.op (ok_move rfl (fun _ => rfl)) rfl rfl ?_
        refine RunD.op (ok_move rfl (fun _ => rfl)) rfl rfl ?_
        first | refine RunD.op (ok_idxN rfl (fun _ => rfl) rfl (fun _ => rfl) rfl (fun _ => by omega)) rfl rfl ?_ | refine RunD.op (ok_idxP rfl (fun _ => rfl) rfl (fun _ => rfl) rfl (fun _ => by omega)) rfl rfl ?_
        refine RunD.op (ok_ldP rfl (fun _ => rfl) rfl) rfl rfl ?_
        refine RunD.op (ok_move rfl (fun _ => rfl)) rfl rfl ?_
        refine RunD.op (ok_move rfl (fun _ => rfl)) rfl rfl ?_
        first | refine RunD.op (ok_idxN rfl (fun _ => rfl) rfl (fun _ => rfl) rfl (fun _ => by omega)) rfl rfl ?_ | refine RunD.op (ok_idxP rfl (fun _ => rfl) rfl (fun _ => rfl) rfl (fun _ => by omega)) rfl rfl ?_
        refine RunD.op (ok_ldP rfl (fun _ => rfl) rfl) rfl rfl ?_
        refine RunD.z ?_
        refine TrL.op (ok_neq rfl (fun _ => rfl) rfl (fun _ => rfl)) rfl rfl ?_
        refine TrL.fin ?_
        refine End.nxt ?_
        refine Tr.cnd rfl ?_ ?_
        · intro h6
          replace h6 := of_decide_eq_true h6
          refine Tr.seq ?_
          refine Tr.rg ?_
          refine TrL.op (ok_assign rfl (fun _ => rfl)) rfl rfl ?_
          refine TrL.fin ?_
          refine End.nxt ?_
          refine Tr.ret ?_
          refine Rts.out ?_
          refine Rts.thn ?_
          refine Rts.thn ?_
          refine Rts.out ?_
          refine Rts.thn ?_
          refine Rts.thn ?_
          exact Rts.res1 (fn := Try.f21) rfl (.b rfl (by symm; rw [decide_eq_false_iff_not]; intro e; exact h6 (by rw [e])) <| .nil)
        · intro h6
          replace h6 := Classical.not_not.1 (of_decide_eq_false h6)
          refine Tr.skip ?_
          refine End.blk ?_
          refine End.nxt ?_
          refine Tr.rg ?_
          refine TrL.op (ok_move rfl (fun _ => rfl)) rfl rfl ?_
          refine TrL.op (ok_add rfl (fun _ => rfl) rfl (fun _ => rfl) (fun _ => by omega)) rfl rfl ?_
          refine TrL.op (ok_assign rfl (fun _ => rfl)) rfl rfl ?_
          refine TrL.fin ?_
          exact End.lp (k + 1) ⟨by omega, all_succ hR0 h6⟩ (by omega) (Ent.mk (.i rfl (by first | rfl | omega | (simp; done) | (simp; omega) | assumption) <| .k rfl rfl <| .k rfl rfl <| .nil) (.nil) rfl)
      · intro h4
        replace h4 := Int.not_lt.1 (of_decide_eq_false h4)
        refine Tr.exit ?_
        refine Exs.thn ?_
        refine Exs.thn ?_
        refine Exs.here ?_
        exact End.cut (k) (ext_nth (by omega) (fun i hi => hR0 i (by omega))) (Ent.mk (.i rfl (by first | rfl | omega | (simp; done) | (simp; omega) | assumption) <| .k rfl rfl <| .k rfl rfl <| .nil) (.nil) rfl)
    · intro k hE0
      refine End.norm (S' := [⟨5, true, _, _⟩, ⟨0, true, _, _⟩, ⟨1, true, _, _⟩]) (M' := []) rfl rfl ?_
      refine End.nxt ?_
      refine Tr.seq ?_
      refine Tr.rg ?_
      refine TrL.op (ok_assign rfl (fun _ => rfl)) rfl rfl ?_
      refine TrL.fin ?_
      refine End.nxt ?_
      refine Tr.ret ?_
      exact Rts.res1 (fn := Try.f21) rfl (.b rfl (by symm; rw [decide_eq_true_eq]; exact hE0) <| .nil)

set_option maxRecDepth 100000 in
theorem ct_Lists (a b : List (List Int)) : Ct Try.prog 32 [kRd (eL (eL eI)) a, kRd (eL (eL eI)) b] (kB (decide (a = b))) := by
  refine Ct.mk Try.func32 rfl Try.ntmps32 rfl (fun w J => ?_)
  refine Tr.fact (s := 0) rfl (fun _ _ h => lenB h) (fun hb => ?_)
  refine Tr.seq ?_
  refine Tr.rg ?_
  refine TrL.op (ok_assign rfl (fun _ => rfl)) rfl rfl ?_
  refine TrL.fin ?_
  refine End.nxt ?_
  refine Tr.seq ?_
  refine Tr.seq ?_
  refine Tr.rg ?_
  refine TrL.op (ok_move rfl (fun _ => rfl)) rfl rfl ?_
  refine TrL.op (ok_lenJ rfl (fun _ => rfl)) rfl rfl ?_
  refine TrL.op (ok_move rfl (fun _ => rfl)) rfl rfl ?_
  refine TrL.op (ok_lenJ rfl (fun _ => rfl)) rfl rfl ?_
  refine TrL.op (ok_neq rfl (fun _ => rfl) rfl (fun _ => rfl)) rfl rfl ?_
  refine TrL.fin ?_
  refine End.nxt ?_
  refine Tr.cnd rfl ?_ ?_
  · intro h1
    replace h1 := of_decide_eq_true h1
    refine Tr.seq ?_
    refine Tr.rg ?_
    refine TrL.op (ok_assign rfl (fun _ => rfl)) rfl rfl ?_
    refine TrL.fin ?_
    refine End.nxt ?_
    refine Tr.ret ?_
    refine Rts.thn ?_
    exact Rts.res1 (fn := Try.f32) rfl (.b rfl (by symm; rw [decide_eq_false_iff_not]; intro e; exact h1 (by rw [e])) <| .nil)
  · intro h1
    replace h1 := Classical.not_not.1 (of_decide_eq_false h1)
    refine Tr.skip ?_
    refine End.nxt ?_
    refine Tr.seq ?_
    refine Tr.seq ?_
    refine Tr.rg ?_
    refine TrL.op (ok_assign rfl (fun _ => rfl)) rfl rfl ?_
    refine TrL.fin ?_
    refine End.nxt ?_
    refine Tr.for1 (σ := Nat) [⟨0, true, _, _⟩, ⟨1, true, _, _⟩] [] (fun k => [⟨5, true, [], kI (k : Int)⟩]) (fun k => []) (fun k => k ≤ a.length ∧ ∀ i, i < k → nth a i = nth b i) (fun k => a = b) (fun k => a.length - k) (0) ⟨Nat.zero_le _, fun i h => absurd h (by omega)⟩ (Ent.mk (.i rfl (by first | rfl | omega | (simp; done) | (simp; omega) | assumption) <| .k rfl rfl <| .k rfl rfl <| .nil) (.nil) rfl) ?_ ?_
    · rintro k ⟨hk0, hR0⟩
      refine Tr.norm (S' := [⟨5, true, _, _⟩, ⟨0, true, _, _⟩, ⟨1, true, _, _⟩]) (M' := []) rfl rfl ?_
      refine Tr.seq ?_
      refine Tr.seq ?_
      refine Tr.rg ?_
      refine TrL.op (ok_move rfl (fun _ => rfl)) rfl rfl ?_
      refine TrL.op (ok_move rfl (fun _ => rfl)) rfl rfl ?_
      refine TrL.op (ok_lenJ rfl (fun _ => rfl)) rfl rfl ?_
      refine TrL.op (ok_lss rfl (fun _ => rfl) rfl (fun _ => rfl)) rfl rfl ?_
      refine TrL.fin ?_
      refine End.nxt ?_
      refine Tr.cnd rfl ?_ ?_
      · intro h4
        replace h4 := of_decide_eq_true h4
        refine Tr.skip ?_
        refine End.nxt ?_
        refine Tr.seq ?_
        refine Tr.blk ?_
        refine Tr.seq ?_
        refine Tr.draw 8 mixed (by kernel_rfl) ?_
        refine RunD.op (ok_move rfl (fun _ => rfl)) rfl rfl ?_
        refine RunD.op (ok_move rfl (fun _ => rfl)) rfl rfl ?_
        first | refine RunD.op (ok_idxN rfl (fun _ => rfl) rfl (fun _ => rfl) rfl (fun _ => by omega)) rfl rfl ?_ | refine RunD.op (ok_idxP rfl (fun _ => rfl) rfl (fun _ => rfl) rfl (fun _ => by omega)) rfl rfl ?_
        refine RunD.op (ok_ldP rfl (fun _ => rfl) rfl) rfl rfl ?_
        refine RunD.op (ok_move rfl (fun _ => rfl)) rfl rfl ?_
        refine RunD.op (ok_move rfl (fun _ => rfl)) rfl rfl ?_
        first | refine RunD.op (ok_idxN rfl (fun _ => rfl) rfl (fun _ => rfl) rfl (fun _ => by omega)) rfl rfl ?_ | refine RunD.op (ok_idxP rfl (fun _ => rfl) rfl (fun _ => rfl) rfl (fun _ => by omega)) rfl rfl ?_
        refine RunD.op (ok_ldP rfl (fun _ => rfl) rfl) rfl rfl ?_
        refine RunD.z ?_
        refine TrL.op (ok_call (fun hp => ct_Ints _ _) (.a rfl (fun _ => rfl) <| .a rfl (fun _ => rfl) <| .nil)) rfl rfl ?_
        refine TrL.op (ok_not rfl (fun _ => rfl)) rfl rfl ?_
        refine TrL.fin ?_
        refine End.nxt ?_
        refine Tr.cnd rfl ?_ ?_
        · intro h6
          try simp only [decide_eq_false_iff_not, Bool.not_eq_true'] at h6
          refine Tr.seq ?_
          refine Tr.rg ?_
          refine TrL.op (ok_assign rfl (fun _ => rfl)) rfl rfl ?_
          refine TrL.fin ?_
          refine End.nxt ?_
          refine Tr.ret ?_
          refine Rts.out ?_
          refine Rts.thn ?_
          refine Rts.thn ?_
          refine Rts.out ?_
          refine Rts.thn ?_
          refine Rts.thn ?_
          exact Rts.res1 (fn := Try.f32) rfl (.b rfl (by symm; rw [decide_eq_false_iff_not]; intro e; exact h6 (by rw [e])) <| .nil)
        · intro h6
          try simp only [decide_eq_true_eq, Bool.not_eq_false'] at h6
          refine Tr.skip ?_
          refine End.blk ?_
          refine End.nxt ?_
          refine Tr.rg ?_
          refine TrL.op (ok_move rfl (fun _ => rfl)) rfl rfl ?_
          refine TrL.op (ok_add rfl (fun _ => rfl) rfl (fun _ => rfl) (fun _ => by omega)) rfl rfl ?_
          refine TrL.op (ok_assign rfl (fun _ => rfl)) rfl rfl ?_
          refine TrL.fin ?_
          exact End.lp (k + 1) ⟨by omega, all_succ hR0 h6⟩ (by omega) (Ent.mk (.i rfl (by first | rfl | omega | (simp; done) | (simp; omega) | assumption) <| .k rfl rfl <| .k rfl rfl <| .nil) (.nil) rfl)
      · intro h4
        replace h4 := Int.not_lt.1 (of_decide_eq_false h4)
        refine Tr.exit ?_
        refine Exs.thn ?_
        refine Exs.thn ?_
        refine Exs.here ?_
        exact End.cut (k) (ext_nth (by omega) (fun i hi => hR0 i (by omega))) (Ent.mk (.i rfl (by first | rfl | omega | (simp; done) | (simp; omega) | assumption) <| .k rfl rfl <| .k rfl rfl <| .nil) (.nil) rfl)
    · intro k hE0
      refine End.norm (S' := [⟨5, true, _, _⟩, ⟨0, true, _, _⟩, ⟨1, true, _, _⟩]) (M' := []) rfl rfl ?_
      refine End.nxt ?_
      refine Tr.seq ?_
      refine Tr.rg ?_
      refine TrL.op (ok_assign rfl (fun _ => rfl)) rfl rfl ?_
      refine TrL.fin ?_
      refine End.nxt ?_
      refine Tr.ret ?_
      exact Rts.res1 (fn := Try.f32) rfl (.b rfl (by symm; rw [decide_eq_true_eq]; exact hE0) <| .nil)

set_option maxRecDepth 100000 in
theorem ct_CopyInts (l : List Int) (hn : l.length ≤ 1000000) : Ct Try.prog 115 [kRd (eL eI) l] (kRd (eL eI) l) := by
  refine Ct.mk Try.func115 rfl Try.ntmps115 rfl (fun w J => ?_)
  refine Tr.seq ?_
  refine Tr.rg ?_
  refine TrL.op (ok_assign rfl (fun _ => rfl)) rfl rfl ?_
  refine TrL.fin ?_
  refine End.nxt ?_
  refine Tr.seq ?_
  refine Tr.rg ?_
  refine TrL.new (ok_bsl0 eI 3) rfl rfl rfl rfl ?_
  refine TrL.op (ok_move rfl (fun _ => rfl)) rfl rfl ?_
  refine TrL.app rfl rfl rfl rfl rfl rfl rfl rfl (by first | omega | (simp only [List.length_cons, List.length_nil]; omega)) (by first | omega | (simp only [List.length_cons, List.length_nil]; omega)) ?_
  refine TrL.norm (S' := [⟨_, _, _, _⟩, ⟨_, _, _, _⟩, ⟨_, _, _, _⟩, ⟨_, _, _, _⟩, ⟨_, _, _, _⟩]) rfl rfl ?_
  refine TrL.op (ok_assign rfl (fun _ => rfl)) rfl rfl ?_
  refine TrL.fin ?_
  refine End.nxt ?_
  refine Tr.frz 3 [2] ⟨rfl, trivial⟩ (by simp only [lenMax]; omega) rfl ?_
  refine Tr.ret ?_
  exact Rts.res1 (fn := Try.f115) rfl (.r rfl (by first | rfl | omega | (simp; done) | (simp; omega) | assumption) <| .nil)

set_option maxRecDepth 100000 in
theorem ct_Abs (n : Int) (h : -9223372036854775807 ≤ n) : Ct Try.prog 26 [kI n] (kI (if n < 0 then -n else n)) := by
  refine Ct.mk Try.func26 rfl Try.ntmps26 rfl (fun w J => ?_)
  refine Tr.seq ?_
  refine Tr.rg ?_
  refine TrL.op (ok_assign rfl (fun _ => rfl)) rfl rfl ?_
  refine TrL.fin ?_
  refine End.nxt ?_
  refine Tr.seq ?_
  refine Tr.seq ?_
  refine Tr.rg ?_
  refine TrL.op (ok_move rfl (fun _ => rfl)) rfl rfl ?_
  refine TrL.op (ok_lss rfl (fun _ => rfl) rfl (fun _ => rfl)) rfl rfl ?_
  refine TrL.fin ?_
  refine End.nxt ?_
  refine Tr.cnd rfl ?_ ?_
  · intro h1
    replace h1 := of_decide_eq_true h1
    refine Tr.seq ?_
    refine Tr.rg ?_
    refine TrL.op (ok_move rfl (fun _ => rfl)) rfl rfl ?_
    refine TrL.op (ok_negW rfl (fun _ => rfl)) rfl rfl ?_
    refine TrL.op (ok_assign rfl (fun _ => rfl)) rfl rfl ?_
    refine TrL.fin ?_
    refine End.nxt ?_
    refine Tr.ret ?_
    refine Rts.thn ?_
    exact Rts.res1 (fn := Try.f26) rfl (.i rfl (by rw [if_pos h1]; exact W_in (by omega) (by omega)) <| .nil)
  · intro h1
    replace h1 := Int.not_lt.1 (of_decide_eq_false h1)
    refine Tr.skip ?_
    refine End.nxt ?_
    refine Tr.seq ?_
    refine Tr.rg ?_
    refine TrL.op (ok_move rfl (fun _ => rfl)) rfl rfl ?_
    refine TrL.op (ok_assign rfl (fun _ => rfl)) rfl rfl ?_
    refine TrL.fin ?_
    refine End.nxt ?_
    refine Tr.ret ?_
    exact Rts.res1 (fn := Try.f26) rfl (.i rfl (by rw [if_neg (by omega)]) <| .nil)

set_option maxRecDepth 100000 in
theorem ct_Within (n a b : Int) : Ct Try.prog 24 [kI n, kI a, kI b] (kB (decide (a ≤ n ∧ n ≤ b))) := by
  refine Ct.mk Try.func24 rfl Try.ntmps24 rfl (fun w J => ?_)
  refine Tr.seq ?_
  refine Tr.rg ?_
  refine TrL.op (ok_assign rfl (fun _ => rfl)) rfl rfl ?_
  refine TrL.fin ?_
  refine End.nxt ?_
  refine Tr.seq ?_
  refine Tr.rg ?_
  refine TrL.op (ok_move rfl (fun _ => rfl)) rfl rfl ?_
  refine TrL.op (ok_move rfl (fun _ => rfl)) rfl rfl ?_
  refine TrL.op (ok_geq rfl (fun _ => rfl) rfl (fun _ => rfl)) rfl rfl ?_
  refine TrL.op (ok_move rfl (fun _ => rfl)) rfl rfl ?_
  refine TrL.gd rfl rfl rfl (ok_move rfl (fun _ => rfl)) rfl rfl ?_
  refine TrL.gd rfl rfl rfl (ok_move rfl (fun _ => rfl)) rfl rfl ?_
  refine TrL.gd rfl rfl rfl (ok_leq rfl id rfl id) rfl rfl ?_
  refine TrL.op (ok_and rfl (fun _ => rfl) rfl (fun hp h => gdT2 ((fun _ => rfl) hp) h)) rfl rfl ?_
  refine TrL.op (ok_assign rfl (fun _ => rfl)) rfl rfl ?_
  refine TrL.fin ?_
  refine End.nxt ?_
  refine Tr.ret ?_
  exact Rts.res1 (fn := Try.f24) rfl (.b rfl (by symm; exact Bool.decide_and _ _) <| .nil)

set_option maxRecDepth 100000 in
theorem ct_rCheckList (l : List Int) (n : Nat) : Ct Try.prog 40 [kRd (eL eI) l, kI (n : Int)] (kI (chkL l n)) := by
  refine Ct.mk Try.func40 rfl Try.ntmps40 rfl (fun w J => ?_)
  refine Tr.fact (s := 0) rfl (fun _ _ h => lenB h) (fun hb => ?_)
  refine Tr.seq ?_
  refine Tr.rg ?_
  refine TrL.op (ok_assign rfl (fun _ => rfl)) rfl rfl ?_
  refine TrL.fin ?_
  refine End.nxt ?_
  refine Tr.seq ?_
  refine Tr.seq ?_
  refine Tr.rg ?_
  refine TrL.op (ok_assign rfl (fun _ => rfl)) rfl rfl ?_
  refine TrL.fin ?_
  refine End.nxt ?_
  refine Tr.for1 (σ := Nat) [⟨0, true, _, _⟩, ⟨1, true, _, _⟩] [] (fun k => [⟨5, true, [], kI (k : Int)⟩]) (fun k => []) (fun k => k ≤ l.length ∧ ∀ i, i < k → 0 ≤ nth l i ∧ nth l i < n) (fun k => ∀ i, i < l.length → 0 ≤ nth l i ∧ nth l i < n) (fun k => l.length - k) (0) ⟨Nat.zero_le _, fun i h => absurd h (by omega)⟩ (Ent.mk (.i rfl (by first | rfl | omega | (simp; done) | (simp; omega) | assumption) <| .k rfl rfl <| .k rfl rfl <| .nil) (.nil) rfl) ?_ ?_
  · rintro k ⟨hk0, hR0⟩
    refine Tr.norm (S' := [⟨5, true, _, _⟩, ⟨0, true, _, _⟩, ⟨1, true, _, _⟩]) (M' := []) rfl rfl ?_
    refine Tr.seq ?_
    refine Tr.seq ?_
    refine Tr.rg ?_
    refine TrL.op (ok_move rfl (fun _ => rfl)) rfl rfl ?_
    refine TrL.op (ok_move rfl (fun _ => rfl)) rfl rfl ?_
    refine TrL.op (ok_lenJ rfl (fun _ => rfl)) rfl rfl ?_
    refine TrL.op (ok_lss rfl (fun _ => rfl) rfl (fun _ => rfl)) rfl rfl ?_
    refine TrL.fin ?_
    refine End.nxt ?_
    refine Tr.cnd rfl ?_ ?_
    · intro h2
      replace h2 := of_decide_eq_true h2
      refine Tr.skip ?_
      refine End.nxt ?_
      refine Tr.seq ?_
      refine Tr.blk ?_
      refine Tr.seq ?_
      refine Tr.rg ?_
      refine TrL.op (ok_move rfl (fun _ => rfl)) rfl rfl ?_
      refine TrL.op (ok_move rfl (fun _ => rfl)) rfl rfl ?_
      first | refine TrL.op (ok_idxN rfl (fun _ => rfl) rfl (fun _ => rfl) rfl (fun _ => by omega)) rfl rfl ?_ | refine TrL.op (ok_idxP rfl (fun _ => rfl) rfl (fun _ => rfl) rfl (fun _ => by omega)) rfl rfl ?_
      refine TrL.op (ok_ldP rfl (fun _ => rfl) rfl) rfl rfl ?_
      refine TrL.op (ok_lss rfl (fun _ => rfl) rfl (fun _ => rfl)) rfl rfl ?_
      refine TrL.op (ok_move rfl (fun _ => rfl)) rfl rfl ?_
      refine TrL.gd rfl rfl rfl (ok_move rfl (fun _ => rfl)) rfl rfl ?_
      refine TrL.gd rfl rfl rfl (ok_move rfl (fun _ => rfl)) rfl rfl ?_
      first | refine TrL.gd rfl rfl rfl (ok_idxN rfl id rfl id rfl (fun hp => by simp at hp; omega)) rfl rfl ?_ | refine TrL.gd rfl rfl rfl (ok_idxP rfl id rfl id rfl (fun hp => by simp at hp; omega)) rfl rfl ?_
      refine TrL.gd rfl rfl rfl (ok_ldP rfl id rfl) rfl rfl ?_
      refine TrL.gd rfl rfl rfl (ok_move rfl (fun _ => rfl)) rfl rfl ?_
      refine TrL.gd rfl rfl rfl (ok_geq rfl id rfl id) rfl rfl ?_
      refine TrL.op (ok_or rfl (fun _ => rfl) rfl (fun hp h => gdF2 ((fun _ => rfl) hp) h)) rfl rfl ?_
      refine TrL.fin ?_
      refine End.nxt ?_
      refine Tr.cnd rfl ?_ ?_
      · intro h4
        try simp only [decide_eq_true_eq, Bool.or_eq_true] at h4
        refine Tr.seq ?_
        refine Tr.rg ?_
        refine TrL.op (ok_assign rfl (fun _ => rfl)) rfl rfl ?_
        refine TrL.fin ?_
        refine End.nxt ?_
        refine Tr.ret ?_
        refine Rts.out ?_
        refine Rts.thn ?_
        refine Rts.thn ?_
        refine Rts.out ?_
        refine Rts.thn ?_
        refine Rts.thn ?_
        exact Rts.res1 (fn := Try.f40) rfl (.i rfl (chkL_out (i := k) (by omega) (by omega)) <| .nil)
      · intro h4
        try simp only [decide_eq_false_iff_not, Bool.or_eq_false_iff, Int.not_lt, Int.not_le] at h4
        refine Tr.skip ?_
        refine End.blk ?_
        refine End.nxt ?_
        refine Tr.rg ?_
        refine TrL.op (ok_move rfl (fun _ => rfl)) rfl rfl ?_
        refine TrL.op (ok_add rfl (fun _ => rfl) rfl (fun _ => rfl) (fun _ => by omega)) rfl rfl ?_
        refine TrL.op (ok_assign rfl (fun _ => rfl)) rfl rfl ?_
        refine TrL.fin ?_
        exact End.lp (k + 1) ⟨by omega, all_succ hR0 (by omega)⟩ (by omega) (Ent.mk (.i rfl (by first | rfl | omega | (simp; done) | (simp; omega) | assumption) <| .k rfl rfl <| .k rfl rfl <| .nil) (.nil) rfl)
    · intro h2
      replace h2 := Int.not_lt.1 (of_decide_eq_false h2)
      refine Tr.exit ?_
      refine Exs.thn ?_
      refine Exs.thn ?_
      refine Exs.here ?_
      exact End.cut (k) (fun i hi => hR0 i (by omega)) (Ent.mk (.i rfl (by first | rfl | omega | (simp; done) | (simp; omega) | assumption) <| .k rfl rfl <| .k rfl rfl <| .nil) (.nil) rfl)
  · intro k hE0
    refine End.norm (S' := [⟨5, true, _, _⟩, ⟨0, true, _, _⟩, ⟨1, true, _, _⟩]) (M' := []) rfl rfl ?_
    refine End.nxt ?_
    refine Tr.seq ?_
    refine Tr.seq ?_
    refine Tr.rg ?_
    refine TrL.op (ok_assign rfl (fun _ => rfl)) rfl rfl ?_
    refine TrL.fin ?_
    refine End.nxt ?_
    refine Tr.for1 (σ := Nat) [⟨0, true, _, _⟩] [] (fun m => [⟨6, true, [], kI (m : Int)⟩]) (fun m => []) (fun m => m ≤ l.length ∧ ∀ i, i < m → ∀ q, q < i → nth l i ≠ nth l q) (fun m => l.Nodup) (fun m => l.length - m) (0) ⟨Nat.zero_le _, fun i h => absurd h (by omega)⟩ (Ent.mk (.i rfl (by first | rfl | omega | (simp; done) | (simp; omega) | assumption) <| .k rfl rfl <| .nil) (.nil) rfl) ?_ ?_
    · rintro m ⟨hk1, hR1⟩
      refine Tr.norm (S' := [⟨6, true, _, _⟩, ⟨0, true, _, _⟩]) (M' := []) rfl rfl ?_
      refine Tr.seq ?_
      refine Tr.seq ?_
      refine Tr.rg ?_
      refine TrL.op (ok_move rfl (fun _ => rfl)) rfl rfl ?_
      refine TrL.op (ok_move rfl (fun _ => rfl)) rfl rfl ?_
      refine TrL.op (ok_lenJ rfl (fun _ => rfl)) rfl rfl ?_
      refine TrL.op (ok_lss rfl (fun _ => rfl) rfl (fun _ => rfl)) rfl rfl ?_
      refine TrL.fin ?_
      refine End.nxt ?_
      refine Tr.cnd rfl ?_ ?_
      · intro h7
        replace h7 := of_decide_eq_true h7
        refine Tr.skip ?_
        refine End.nxt ?_
        refine Tr.seq ?_
        refine Tr.blk ?_
        refine Tr.seq ?_
        refine Tr.rg ?_
        refine TrL.op (ok_assign rfl (fun _ => rfl)) rfl rfl ?_
        refine TrL.fin ?_
        refine End.nxt ?_
        refine Tr.for1 (σ := Nat) [⟨0, true, _, _⟩, ⟨6, true, _, _⟩] [] (fun q => [⟨7, true, [], kI (q : Int)⟩]) (fun q => []) (fun q => q ≤ m ∧ ∀ i, i < q → nth l m ≠ nth l i) (fun q => ∀ i, i < m → nth l m ≠ nth l i) (fun q => m - q) (0) ⟨Nat.zero_le _, fun i h => absurd h (by omega)⟩ (Ent.mk (.i rfl (by first | rfl | omega | (simp; done) | (simp; omega) | assumption) <| .k rfl rfl <| .k rfl rfl <| .nil) (.nil) rfl) ?_ ?_
        · rintro q ⟨hk2, hR2⟩
          refine Tr.norm (S' := [⟨7, true, _, _⟩, ⟨0, true, _, _⟩, ⟨6, true, _, _⟩]) (M' := []) rfl rfl ?_
          refine Tr.seq ?_
          refine Tr.seq ?_
          refine Tr.rg ?_
          refine TrL.op (ok_move rfl (fun _ => rfl)) rfl rfl ?_
          refine TrL.op (ok_move rfl (fun _ => rfl)) rfl rfl ?_
          refine TrL.op (ok_lss rfl (fun _ => rfl) rfl (fun _ => rfl)) rfl rfl ?_
          refine TrL.fin ?_
          refine End.nxt ?_
          refine Tr.cnd rfl ?_ ?_
          · intro h10
            replace h10 := of_decide_eq_true h10
            refine Tr.skip ?_
            refine End.nxt ?_
            refine Tr.seq ?_
            refine Tr.blk ?_
            refine Tr.seq ?_
            refine Tr.draw 8 mixed (by kernel_rfl) ?_
            refine RunD.op (ok_move rfl (fun _ => rfl)) rfl rfl ?_
            refine RunD.op (ok_move rfl (fun _ => rfl)) rfl rfl ?_
            first | refine RunD.op (ok_idxN rfl (fun _ => rfl) rfl (fun _ => rfl) rfl (fun _ => by omega)) rfl rfl ?_ | refine RunD.op (ok_idxP rfl (fun _ => rfl) rfl (fun _ => rfl) rfl (fun _ => by omega)) rfl rfl ?_
            refine RunD.op (ok_ldP rfl (fun _ => rfl) rfl) rfl rfl ?_
            refine RunD.op (ok_move rfl (fun _ => rfl)) rfl rfl ?_
            refine RunD.op (ok_move rfl (fun _ => rfl)) rfl rfl ?_
            first | refine RunD.op (ok_idxN rfl (fun _ => rfl) rfl (fun _ => rfl) rfl (fun _ => by omega)) rfl rfl ?_ | refine RunD.op (ok_idxP rfl (fun _ => rfl) rfl (fun _ => rfl) rfl (fun _ => by omega)) rfl rfl ?_
            refine RunD.op (ok_ldP rfl (fun _ => rfl) rfl) rfl rfl ?_
            refine RunD.z ?_
            refine TrL.op (ok_eql rfl (fun _ => rfl) rfl (fun _ => rfl)) rfl rfl ?_
            refine TrL.fin ?_
            refine End.nxt ?_
            refine Tr.cnd rfl ?_ ?_
            · intro h12
              replace h12 := of_decide_eq_true h12
              refine Tr.seq ?_
              refine Tr.rg ?_
              refine TrL.op (ok_assign rfl (fun _ => rfl)) rfl rfl ?_
              refine TrL.fin ?_
              refine End.nxt ?_
              refine Tr.ret ?_
              refine Rts.out ?_
              refine Rts.thn ?_
              refine Rts.thn ?_
              refine Rts.out ?_
              refine Rts.thn ?_
              refine Rts.out ?_
              refine Rts.thn ?_
              refine Rts.thn ?_
              refine Rts.out ?_
              refine Rts.thn ?_
              refine Rts.thn ?_
              exact Rts.res1 (fn := Try.f40) rfl (.i rfl (chkL_dup hE0 (i := m) (k := q) (by omega) (by omega) h12) <| .nil)
            · intro h12
              replace h12 := of_decide_eq_false h12
              refine Tr.skip ?_
              refine End.blk ?_
              refine End.nxt ?_
              refine Tr.rg ?_
              refine TrL.op (ok_move rfl (fun _ => rfl)) rfl rfl ?_
              refine TrL.op (ok_add rfl (fun _ => rfl) rfl (fun _ => rfl) (fun _ => by omega)) rfl rfl ?_
              refine TrL.op (ok_assign rfl (fun _ => rfl)) rfl rfl ?_
              refine TrL.fin ?_
              exact End.lp (q + 1) ⟨by omega, all_succ hR2 h12⟩ (by omega) (Ent.mk (.i rfl (by first | rfl | omega | (simp; done) | (simp; omega) | assumption) <| .k rfl rfl <| .k rfl rfl <| .nil) (.nil) rfl)
          · intro h10
            replace h10 := Int.not_lt.1 (of_decide_eq_false h10)
            refine Tr.exit ?_
            refine Exs.thn ?_
            refine Exs.thn ?_
            refine Exs.here ?_
            exact End.cut (q) (fun i hi => hR2 i (by omega)) (Ent.mk (.i rfl (by first | rfl | omega | (simp; done) | (simp; omega) | assumption) <| .k rfl rfl <| .k rfl rfl <| .nil) (.nil) rfl)
        · intro q hE2
          refine End.norm (S' := [⟨7, true, _, _⟩, ⟨0, true, _, _⟩, ⟨6, true, _, _⟩]) (M' := []) rfl rfl ?_
          refine End.blk ?_
          refine End.nxt ?_
          refine Tr.rg ?_
          refine TrL.op (ok_move rfl (fun _ => rfl)) rfl rfl ?_
          refine TrL.op (ok_add rfl (fun _ => rfl) rfl (fun _ => rfl) (fun _ => by omega)) rfl rfl ?_
          refine TrL.op (ok_assign rfl (fun _ => rfl)) rfl rfl ?_
          refine TrL.fin ?_
          exact End.lp (m + 1) ⟨by omega, all_succ hR1 hE2⟩ (by omega) (Ent.mk (.i rfl (by first | rfl | omega | (simp; done) | (simp; omega) | assumption) <| .k rfl rfl <| .nil) (.nil) rfl)
      · intro h7
        replace h7 := Int.not_lt.1 (of_decide_eq_false h7)
        refine Tr.exit ?_
        refine Exs.thn ?_
        refine Exs.thn ?_
        refine Exs.here ?_
        exact End.cut (m) (nodup_of_pairs (fun i hi => hR1 i (by omega))) (Ent.mk (.i rfl (by first | rfl | omega | (simp; done) | (simp; omega) | assumption) <| .k rfl rfl <| .nil) (.nil) rfl)
    · intro m hE1
      refine End.norm (S' := [⟨6, true, _, _⟩, ⟨0, true, _, _⟩]) (M' := []) rfl rfl ?_
      refine End.nxt ?_
      refine Tr.seq ?_
      refine Tr.rg ?_
      refine TrL.op (ok_assign rfl (fun _ => rfl)) rfl rfl ?_
      refine TrL.fin ?_
      refine End.nxt ?_
      refine Tr.ret ?_
      exact Rts.res1 (fn := Try.f40) rfl (.i rfl (chkL_in hE0 hE1) <| .nil)

set_option maxRecDepth 100000 in
theorem ct_rCheck (o : Ori) : Ct Try.prog 23 [kRd eO o] (kI (chkO o)) := by
  refine Ct.mk Try.func23 rfl Try.ntmps23 rfl (fun w J => ?_)
  refine Tr.seq ?_
  refine Tr.rg ?_
  refine TrL.new (ok_box 1 rfl (fun _ => rfl) rfl) rfl rfl rfl rfl ?_
  refine TrL.op (ok_assign rfl (fun _ => rfl)) rfl rfl ?_
  refine TrL.fin ?_
  refine End.nxt ?_
  refine Tr.seq ?_
  refine Tr.rg ?_
  refine TrL.op (ok_fldO rfl (fun _ => rfl)) rfl rfl ?_
  refine TrL.op (ok_ldB rfl (fun _ => rfl) rfl) rfl rfl ?_
  refine TrL.op (ok_lenJ rfl (fun _ => rfl)) rfl rfl ?_
  refine TrL.op (ok_assign rfl (fun _ => rfl)) rfl rfl ?_
  refine TrL.fin ?_
  refine End.nxt ?_
  refine Tr.seq ?_
  refine Tr.seq ?_
  refine Tr.rg ?_
  refine TrL.op (ok_move rfl (fun _ => rfl)) rfl rfl ?_
  refine TrL.op (ok_fldO rfl (fun _ => rfl)) rfl rfl ?_
  refine TrL.op (ok_ldB rfl (fun _ => rfl) rfl) rfl rfl ?_
  refine TrL.op (ok_lenJ rfl (fun _ => rfl)) rfl rfl ?_
  refine TrL.op (ok_neq rfl (fun _ => rfl) rfl (fun _ => rfl)) rfl rfl ?_
  refine TrL.op (ok_move rfl (fun _ => rfl)) rfl rfl ?_
  refine TrL.gd rfl rfl rfl (ok_move rfl (fun _ => rfl)) rfl rfl ?_
  refine TrL.gd rfl rfl rfl (ok_eql rfl id rfl (fun _ => rfl)) rfl rfl ?_
  refine TrL.op (ok_or rfl (fun _ => rfl) rfl (fun hp h => gdF2 ((fun _ => rfl) hp) h)) rfl rfl ?_
  refine TrL.fin ?_
  refine End.nxt ?_
  refine Tr.cnd rfl ?_ ?_
  · intro h2
    try simp only [decide_eq_true_eq, Bool.or_eq_true, ne_eq] at h2
    refine Tr.seq ?_
    refine Tr.rg ?_
    refine TrL.op (ok_assign rfl (fun _ => rfl)) rfl rfl ?_
    refine TrL.fin ?_
    refine End.nxt ?_
    refine Tr.ret ?_
    refine Rts.thn ?_
    exact Rts.res1 (fn := Try.f23) rfl (.i rfl (by unfold chkO; rw [if_pos (by omega)]) <| .nil)
  · intro h2
    try simp only [decide_eq_false_iff_not, Bool.or_eq_false_iff, ne_eq, Classical.not_not] at h2
    refine Tr.skip ?_
    refine End.nxt ?_
    refine Tr.seq ?_
    refine Tr.seq ?_
    refine Tr.rg ?_
    refine TrL.op (ok_move rfl (fun _ => rfl)) rfl rfl ?_
    refine TrL.op (ok_gtr rfl (fun _ => rfl) rfl (fun _ => rfl)) rfl rfl ?_
    refine TrL.fin ?_
    refine End.nxt ?_
    refine Tr.cnd rfl ?_ ?_
    · intro h4
      replace h4 := of_decide_eq_true h4
      refine Tr.seq ?_
      refine Tr.rg ?_
      refine TrL.op (ok_assign rfl (fun _ => rfl)) rfl rfl ?_
      refine TrL.fin ?_
      refine End.nxt ?_
      refine Tr.ret ?_
      refine Rts.thn ?_
      exact Rts.res1 (fn := Try.f23) rfl (.i rfl (by unfold chkO; rw [if_neg (by omega), if_pos (by omega)]) <| .nil)
    · intro h4
      replace h4 := Int.not_lt.1 (of_decide_eq_false h4)
      refine Tr.skip ?_
      refine End.nxt ?_
      refine Tr.seq ?_
      refine Tr.seq ?_
      refine Tr.rg ?_
      refine TrL.op (ok_fldO rfl (fun _ => rfl)) rfl rfl ?_
      refine TrL.op (ok_ldB rfl (fun _ => rfl) rfl) rfl rfl ?_
      refine TrL.op (ok_move rfl (fun _ => rfl)) rfl rfl ?_
      refine TrL.op (ok_call (fun hp => ct_rCheckList _ _) (.a rfl (fun _ => rfl) <| .a rfl (fun _ => rfl) <| .nil)) rfl rfl ?_
      refine TrL.op (ok_assign rfl (fun _ => rfl)) rfl rfl ?_
      refine TrL.fin ?_
      refine End.nxt ?_
      refine Tr.seq ?_
      refine Tr.rg ?_
      refine TrL.op (ok_move rfl (fun _ => rfl)) rfl rfl ?_
      refine TrL.op (ok_neq rfl (fun _ => rfl) rfl (fun _ => rfl)) rfl rfl ?_
      refine TrL.fin ?_
      refine End.nxt ?_
      refine Tr.cnd rfl ?_ ?_
      · intro h7
        replace h7 := of_decide_eq_true h7
        refine Tr.seq ?_
        refine Tr.rg ?_
        refine TrL.op (ok_move rfl (fun _ => rfl)) rfl rfl ?_
        refine TrL.op (ok_assign rfl (fun _ => rfl)) rfl rfl ?_
        refine TrL.fin ?_
        refine End.nxt ?_
        refine Tr.ret ?_
        refine Rts.thn ?_
        exact Rts.res1 (fn := Try.f23) rfl (.i rfl (by unfold chkO; rw [if_neg (by omega), if_neg (by omega), if_pos h7]) <| .nil)
      · intro h7
        replace h7 := Classical.not_not.1 (of_decide_eq_false h7)
        refine Tr.skip ?_
        refine End.nxt ?_
        refine Tr.seq ?_
        refine Tr.rg ?_
        refine TrL.op (ok_fldO rfl (fun _ => rfl)) rfl rfl ?_
        refine TrL.op (ok_ldB rfl (fun _ => rfl) rfl) rfl rfl ?_
        refine TrL.op (ok_move rfl (fun _ => rfl)) rfl rfl ?_
        refine TrL.op (ok_call (fun hp => ct_rCheckList _ _) (.a rfl (fun _ => rfl) <| .a rfl (fun _ => rfl) <| .nil)) rfl rfl ?_
        refine TrL.op (ok_assign rfl (fun _ => rfl)) rfl rfl ?_
        refine TrL.fin ?_
        refine End.nxt ?_
        refine Tr.ret ?_
        exact Rts.res1 (fn := Try.f23) rfl (.i rfl (by unfold chkO; rw [if_neg (by omega), if_neg (by omega), if_neg (by omega)]) <| .nil)

set_option maxRecDepth 100000 in
theorem ct_rAt (l : List Int) (x : Int) : Ct Try.prog 87 [kRd (eL eI) l, kI x] (kI (atL l x)) := by
  refine Ct.mk Try.func87 rfl Try.ntmps87 rfl (fun w J => ?_)
  refine Tr.fact (s := 0) rfl (fun _ _ h => lenB h) (fun hb => ?_)
  refine Tr.seq ?_
  refine Tr.rg ?_
  refine TrL.op (ok_assign rfl (fun _ => rfl)) rfl rfl ?_
  refine TrL.fin ?_
  refine End.nxt ?_
  refine Tr.seq ?_
  refine Tr.seq ?_
  refine Tr.rg ?_
  refine TrL.op (ok_assign rfl (fun _ => rfl)) rfl rfl ?_
  refine TrL.fin ?_
  refine End.nxt ?_
  refine Tr.for1 (σ := Nat) [⟨0, true, _, _⟩, ⟨1, true, _, _⟩] [] (fun k => [⟨5, true, [], kI (k : Int)⟩]) (fun k => []) (fun k => k ≤ l.length ∧ ∀ i, i < k → nth l i ≠ x) (fun k => ∀ i, i < l.length → nth l i ≠ x) (fun k => l.length - k) (0) ⟨Nat.zero_le _, fun i h => absurd h (by omega)⟩ (Ent.mk (.i rfl (by first | rfl | omega | (simp; done) | (simp; omega) | assumption) <| .k rfl rfl <| .k rfl rfl <| .nil) (.nil) rfl) ?_ ?_
  · rintro k ⟨hk0, hR0⟩
    refine Tr.norm (S' := [⟨5, true, _, _⟩, ⟨0, true, _, _⟩, ⟨1, true, _, _⟩]) (M' := []) rfl rfl ?_
    refine Tr.seq ?_
    refine Tr.seq ?_
    refine Tr.rg ?_
    refine TrL.op (ok_move rfl (fun _ => rfl)) rfl rfl ?_
    refine TrL.op (ok_move rfl (fun _ => rfl)) rfl rfl ?_
    refine TrL.op (ok_lenJ rfl (fun _ => rfl)) rfl rfl ?_
    refine TrL.op (ok_lss rfl (fun _ => rfl) rfl (fun _ => rfl)) rfl rfl ?_
    refine TrL.fin ?_
    refine End.nxt ?_
    refine Tr.cnd rfl ?_ ?_
    · intro h2
      replace h2 := of_decide_eq_true h2
      refine Tr.skip ?_
      refine End.nxt ?_
      refine Tr.seq ?_
      refine Tr.blk ?_
      refine Tr.seq ?_
      refine Tr.rg ?_
      refine TrL.op (ok_move rfl (fun _ => rfl)) rfl rfl ?_
      refine TrL.op (ok_move rfl (fun _ => rfl)) rfl rfl ?_
      first | refine TrL.op (ok_idxN rfl (fun _ => rfl) rfl (fun _ => rfl) rfl (fun _ => by omega)) rfl rfl ?_ | refine TrL.op (ok_idxP rfl (fun _ => rfl) rfl (fun _ => rfl) rfl (fun _ => by omega)) rfl rfl ?_
      refine TrL.op (ok_ldP rfl (fun _ => rfl) rfl) rfl rfl ?_
      refine TrL.op (ok_move rfl (fun _ => rfl)) rfl rfl ?_
      refine TrL.op (ok_eql rfl (fun _ => rfl) rfl (fun _ => rfl)) rfl rfl ?_
      refine TrL.fin ?_
      refine End.nxt ?_
      refine Tr.cnd rfl ?_ ?_
      · intro h4
        replace h4 := of_decide_eq_true h4
        refine Tr.seq ?_
        refine Tr.rg ?_
        refine TrL.op (ok_move rfl (fun _ => rfl)) rfl rfl ?_
        refine TrL.op (ok_assign rfl (fun _ => rfl)) rfl rfl ?_
        refine TrL.fin ?_
        refine End.nxt ?_
        refine Tr.ret ?_
        refine Rts.out ?_
        refine Rts.thn ?_
        refine Rts.thn ?_
        refine Rts.out ?_
        refine Rts.thn ?_
        refine Rts.thn ?_
        exact Rts.res1 (fn := Try.f87) rfl (.i rfl (atL_at (by omega) hR0 h4) <| .nil)
      · intro h4
        replace h4 := of_decide_eq_false h4
        refine Tr.skip ?_
        refine End.blk ?_
        refine End.nxt ?_
        refine Tr.rg ?_
        refine TrL.op (ok_move rfl (fun _ => rfl)) rfl rfl ?_
        refine TrL.op (ok_add rfl (fun _ => rfl) rfl (fun _ => rfl) (fun _ => by omega)) rfl rfl ?_
        refine TrL.op (ok_assign rfl (fun _ => rfl)) rfl rfl ?_
        refine TrL.fin ?_
        exact End.lp (k + 1) ⟨by omega, all_succ hR0 h4⟩ (by omega) (Ent.mk (.i rfl (by first | rfl | omega | (simp; done) | (simp; omega) | assumption) <| .k rfl rfl <| .k rfl rfl <| .nil) (.nil) rfl)
    · intro h2
      replace h2 := Int.not_lt.1 (of_decide_eq_false h2)
      refine Tr.exit ?_
      refine Exs.thn ?_
      refine Exs.thn ?_
      refine Exs.here ?_
      exact End.cut (k) (fun i hi => hR0 i (by omega)) (Ent.mk (.i rfl (by first | rfl | omega | (simp; done) | (simp; omega) | assumption) <| .k rfl rfl <| .k rfl rfl <| .nil) (.nil) rfl)
  · intro k hE0
    refine End.norm (S' := [⟨5, true, _, _⟩, ⟨0, true, _, _⟩, ⟨1, true, _, _⟩]) (M' := []) rfl rfl ?_
    refine End.nxt ?_
    refine Tr.seq ?_
    refine Tr.rg ?_
    refine TrL.op (ok_assign rfl (fun _ => rfl)) rfl rfl ?_
    refine TrL.fin ?_
    refine End.nxt ?_
    refine Tr.ret ?_
    exact Rts.res1 (fn := Try.f87) rfl (.i rfl (atL_none hE0) <| .nil)

set_option maxRecDepth 100000 in
theorem ct_rInverse (l : List Int) (hn : l.length ≤ 1000) : Ct Try.prog 81 [kRd (eL eI) l] (kRd (eL eI) (invA l)) := by
  refine Ct.mk Try.func81 rfl Try.ntmps81 rfl (fun w J => ?_)
  refine Tr.seq ?_
  refine Tr.rg ?_
  refine TrL.op (ok_assign rfl (fun _ => rfl)) rfl rfl ?_
  refine TrL.fin ?_
  refine End.nxt ?_
  refine Tr.seq ?_
  refine Tr.rg ?_
  refine TrL.op (ok_assign rfl (fun _ => rfl)) rfl rfl ?_
  refine TrL.fin ?_
  refine End.nxt ?_
  refine Tr.seq ?_
  refine Tr.seq ?_
  refine Tr.rg ?_
  refine TrL.op (ok_assign rfl (fun _ => rfl)) rfl rfl ?_
  refine TrL.fin ?_
  refine End.nxt ?_
  refine Tr.grow (s := 3) rfl rfl 3 rfl 3 eI rfl ?_
  refine Tr.for1 (σ := Nat) [⟨0, true, _, _⟩] [] (fun k => [⟨4, true, [], kI (k : Int)⟩, ⟨3, true, [3], kOsl 3 k⟩]) (fun k => [⟨3, [], cArr true 3 eI (tab k (fun i : Nat => atL l i)) k⟩]) (fun k => k ≤ l.length) (fun k => k = l.length) (fun k => l.length - k) (0) (Nat.zero_le _) (Ent.mk (.i rfl (by first | rfl | omega | (simp; done) | (simp; omega) | assumption) <| .o rfl (by first | rfl | omega | (simp; done) | (simp; omega) | assumption) rfl <| .k rfl rfl <| .nil) (.a (by rfl) (by first | rfl | omega | (simp; done) | (simp; omega) | assumption) <| .nil) rfl) ?_ ?_
  · intro k hR0
    refine Tr.norm (S' := [⟨4, true, _, _⟩, ⟨3, true, _, _⟩, ⟨0, true, _, _⟩]) (M' := [⟨3, _, _⟩]) rfl rfl ?_
    refine Tr.seq ?_
    refine Tr.seq ?_
    refine Tr.rg ?_
    refine TrL.op (ok_move rfl (fun _ => rfl)) rfl rfl ?_
    refine TrL.op (ok_move rfl (fun _ => rfl)) rfl rfl ?_
    refine TrL.op (ok_lenJ rfl (fun _ => rfl)) rfl rfl ?_
    refine TrL.op (ok_lss rfl (fun _ => rfl) rfl (fun _ => rfl)) rfl rfl ?_
    refine TrL.fin ?_
    refine End.nxt ?_
    refine Tr.cnd rfl ?_ ?_
    · intro h3
      replace h3 := of_decide_eq_true h3
      refine Tr.skip ?_
      refine End.nxt ?_
      refine Tr.seq ?_
      refine Tr.blk ?_
      refine Tr.rg ?_
      refine TrL.op (ok_move rfl (fun _ => rfl)) rfl rfl ?_
      refine TrL.op (ok_move rfl (fun _ => rfl)) rfl rfl ?_
      refine TrL.op (ok_move rfl (fun _ => rfl)) rfl rfl ?_
      refine TrL.op (ok_call (fun hp => ct_rAt _ _) (.a rfl (fun _ => rfl) <| .a rfl (fun _ => rfl) <| .nil)) rfl rfl ?_
      refine TrL.new (ok_bsl eI 15 (fun hp => .cons rfl <| .nil) rfl rfl rfl rfl) rfl rfl rfl rfl ?_
      refine TrL.app rfl rfl rfl rfl rfl rfl rfl rfl (by first | omega | (simp only [List.length_cons, List.length_nil]; omega)) (by first | omega | (simp only [List.length_cons, List.length_nil]; omega)) ?_
      refine TrL.norm (S' := [⟨_, _, _, _⟩, ⟨_, _, _, _⟩, ⟨_, _, _, _⟩, ⟨_, _, _, _⟩, ⟨_, _, _, _⟩, ⟨_, _, _, _⟩, ⟨_, _, _, _⟩, ⟨_, _, _, _⟩, ⟨_, _, _, _⟩, ⟨_, _, _, _⟩, ⟨_, _, _, _⟩, ⟨_, _, _, _⟩, ⟨_, _, _, _⟩]) rfl rfl ?_
      refine TrL.op (ok_assign rfl (fun _ => rfl)) rfl rfl ?_
      refine TrL.fin ?_
      refine End.blk ?_
      refine End.nxt ?_
      refine Tr.rg ?_
      refine TrL.op (ok_move rfl (fun _ => rfl)) rfl rfl ?_
      refine TrL.op (ok_add rfl (fun _ => rfl) rfl (fun _ => rfl) (fun _ => by omega)) rfl rfl ?_
      refine TrL.op (ok_assign rfl (fun _ => rfl)) rfl rfl ?_
      refine TrL.fin ?_
      exact End.lp (k + 1) (by first | rfl | omega | (simp; done) | (simp; omega) | assumption) (by omega) (Ent.mk (.i rfl (by first | rfl | omega | (simp; done) | (simp; omega) | assumption) <| .o rfl (by first | rfl | omega | (simp; done) | (simp; omega) | assumption) rfl <| .k rfl rfl <| .nil) (.a tab_succ.symm (by first | rfl | omega | (simp; done) | (simp; omega) | assumption) <| .nil) rfl)
    · intro h3
      replace h3 := Int.not_lt.1 (of_decide_eq_false h3)
      refine Tr.exit ?_
      refine Exs.thn ?_
      refine Exs.thn ?_
      refine Exs.here ?_
      exact End.cut (k) (by omega) (Ent.mk (.i rfl (by first | rfl | omega | (simp; done) | (simp; omega) | assumption) <| .o rfl (by first | rfl | omega | (simp; done) | (simp; omega) | assumption) rfl <| .k rfl rfl <| .nil) (.a (by first | rfl | omega | (simp; done) | (simp; omega) | assumption) (by first | rfl | omega | (simp; done) | (simp; omega) | assumption) <| .nil) rfl)
  · rintro _ rfl
    refine End.norm (S' := [⟨4, true, _, _⟩, ⟨3, true, _, _⟩, ⟨0, true, _, _⟩]) (M' := [⟨3, _, _⟩]) rfl rfl ?_
    refine End.nxt ?_
    refine Tr.seq ?_
    refine Tr.rg ?_
    refine TrL.op (ok_move rfl (fun _ => rfl)) rfl rfl ?_
    refine TrL.op (ok_assign rfl (fun _ => rfl)) rfl rfl ?_
    refine TrL.fin ?_
    refine End.nxt ?_
    refine Tr.frz 3 [2] ⟨rfl, trivial⟩ (by simp only [lenMax]; omega) rfl ?_
    refine Tr.ret ?_
    exact Rts.res1 (fn := Try.f81) rfl (.r rfl (by first | rfl | omega | (simp; done) | (simp; omega) | assumption) <| .nil)

set_option maxRecDepth 100000 in
theorem ct_rAfter (p q : List Int) (hn : p.length ≤ 1000) (hp : inR p q.length) : Ct Try.prog 80 [kRd (eL eI) p, kRd (eL eI) q] (kRd (eL eI) (thenL p q)) := by
  refine Ct.mk Try.func80 rfl Try.ntmps80 rfl (fun w J => ?_)
  refine Tr.seq ?_
  refine Tr.rg ?_
  refine TrL.op (ok_assign rfl (fun _ => rfl)) rfl rfl ?_
  refine TrL.fin ?_
  refine End.nxt ?_
  refine Tr.seq ?_
  refine Tr.rg ?_
  refine TrL.op (ok_assign rfl (fun _ => rfl)) rfl rfl ?_
  refine TrL.fin ?_
  refine End.nxt ?_
  refine Tr.seq ?_
  refine Tr.seq ?_
  refine Tr.rg ?_
  refine TrL.op (ok_assign rfl (fun _ => rfl)) rfl rfl ?_
  refine TrL.fin ?_
  refine End.nxt ?_
  refine Tr.grow (s := 5) rfl rfl 5 rfl 3 eI rfl ?_
  refine Tr.for1 (σ := Nat) [⟨0, true, _, _⟩, ⟨1, true, _, _⟩] [] (fun k => [⟨6, true, [], kI (k : Int)⟩, ⟨5, true, [5], kOsl 5 k⟩]) (fun k => [⟨5, [], cArr true 3 eI (tab k (fun i => nth q (nth p i).toNat)) k⟩]) (fun k => k ≤ p.length) (fun k => k = p.length) (fun k => p.length - k) (0) (Nat.zero_le _) (Ent.mk (.i rfl (by first | rfl | omega | (simp; done) | (simp; omega) | assumption) <| .o rfl (by first | rfl | omega | (simp; done) | (simp; omega) | assumption) rfl <| .k rfl rfl <| .k rfl rfl <| .nil) (.a (by rfl) (by first | rfl | omega | (simp; done) | (simp; omega) | assumption) <| .nil) rfl) ?_ ?_
  · intro k hR0
    refine Tr.norm (S' := [⟨6, true, _, _⟩, ⟨5, true, _, _⟩, ⟨0, true, _, _⟩, ⟨1, true, _, _⟩]) (M' := [⟨5, _, _⟩]) rfl rfl ?_
    have hpk := hp k
    refine Tr.seq ?_
    refine Tr.seq ?_
    refine Tr.rg ?_
    refine TrL.op (ok_move rfl (fun _ => rfl)) rfl rfl ?_
    refine TrL.op (ok_move rfl (fun _ => rfl)) rfl rfl ?_
    refine TrL.op (ok_lenJ rfl (fun _ => rfl)) rfl rfl ?_
    refine TrL.op (ok_lss rfl (fun _ => rfl) rfl (fun _ => rfl)) rfl rfl ?_
    refine TrL.fin ?_
    refine End.nxt ?_
    refine Tr.cnd rfl ?_ ?_
    · intro h3
      replace h3 := of_decide_eq_true h3
      refine Tr.skip ?_
      refine End.nxt ?_
      refine Tr.seq ?_
      refine Tr.blk ?_
      refine Tr.rg ?_
      refine TrL.op (ok_move rfl (fun _ => rfl)) rfl rfl ?_
      refine TrL.op (ok_move rfl (fun _ => rfl)) rfl rfl ?_
      refine TrL.op (ok_move rfl (fun _ => rfl)) rfl rfl ?_
      refine TrL.op (ok_move rfl (fun _ => rfl)) rfl rfl ?_
      first | refine TrL.op (ok_idxN rfl (fun _ => rfl) rfl (fun _ => rfl) rfl (fun _ => by omega)) rfl rfl ?_ | refine TrL.op (ok_idxP rfl (fun _ => rfl) rfl (fun _ => rfl) rfl (fun _ => by omega)) rfl rfl ?_
      refine TrL.op (ok_ldP rfl (fun _ => rfl) rfl) rfl rfl ?_
      first | refine TrL.op (ok_idxN rfl (fun _ => rfl) rfl (fun _ => rfl) rfl (fun _ => by omega)) rfl rfl ?_ | refine TrL.op (ok_idxP rfl (fun _ => rfl) rfl (fun _ => rfl) rfl (fun _ => by omega)) rfl rfl ?_
      refine TrL.op (ok_ldP rfl (fun _ => rfl) rfl) rfl rfl ?_
      refine TrL.new (ok_bsl eI 21 (fun hp => .cons rfl <| .nil) rfl rfl rfl rfl) rfl rfl rfl rfl ?_
      refine TrL.app rfl rfl rfl rfl rfl rfl rfl rfl (by first | omega | (simp only [List.length_cons, List.length_nil]; omega)) (by first | omega | (simp only [List.length_cons, List.length_nil]; omega)) ?_
      refine TrL.norm (S' := [⟨_, _, _, _⟩, ⟨_, _, _, _⟩, ⟨_, _, _, _⟩, ⟨_, _, _, _⟩, ⟨_, _, _, _⟩, ⟨_, _, _, _⟩, ⟨_, _, _, _⟩, ⟨_, _, _, _⟩, ⟨_, _, _, _⟩, ⟨_, _, _, _⟩, ⟨_, _, _, _⟩, ⟨_, _, _, _⟩, ⟨_, _, _, _⟩, ⟨_, _, _, _⟩, ⟨_, _, _, _⟩, ⟨_, _, _, _⟩, ⟨_, _, _, _⟩, ⟨_, _, _, _⟩]) rfl rfl ?_
      refine TrL.op (ok_assign rfl (fun _ => rfl)) rfl rfl ?_
      refine TrL.fin ?_
      refine End.blk ?_
      refine End.nxt ?_
      refine Tr.rg ?_
      refine TrL.op (ok_move rfl (fun _ => rfl)) rfl rfl ?_
      refine TrL.op (ok_add rfl (fun _ => rfl) rfl (fun _ => rfl) (fun _ => by omega)) rfl rfl ?_
      refine TrL.op (ok_assign rfl (fun _ => rfl)) rfl rfl ?_
      refine TrL.fin ?_
      exact End.lp (k + 1) (by first | rfl | omega | (simp; done) | (simp; omega) | assumption) (by omega) (Ent.mk (.i rfl (by first | rfl | omega | (simp; done) | (simp; omega) | assumption) <| .o rfl (by first | rfl | omega | (simp; done) | (simp; omega) | assumption) rfl <| .k rfl rfl <| .k rfl rfl <| .nil) (.a tab_succ.symm (by first | rfl | omega | (simp; done) | (simp; omega) | assumption) <| .nil) rfl)
    · intro h3
      replace h3 := Int.not_lt.1 (of_decide_eq_false h3)
      refine Tr.exit ?_
      refine Exs.thn ?_
      refine Exs.thn ?_
      refine Exs.here ?_
      exact End.cut (k) (by omega) (Ent.mk (.i rfl (by first | rfl | omega | (simp; done) | (simp; omega) | assumption) <| .o rfl (by first | rfl | omega | (simp; done) | (simp; omega) | assumption) rfl <| .k rfl rfl <| .k rfl rfl <| .nil) (.a (by first | rfl | omega | (simp; done) | (simp; omega) | assumption) (by first | rfl | omega | (simp; done) | (simp; omega) | assumption) <| .nil) rfl)
  · rintro _ rfl
    refine End.norm (S' := [⟨6, true, _, _⟩, ⟨5, true, _, _⟩, ⟨0, true, _, _⟩, ⟨1, true, _, _⟩]) (M' := [⟨5, _, _⟩]) rfl rfl ?_
    refine End.nxt ?_
    refine Tr.seq ?_
    refine Tr.rg ?_
    refine TrL.op (ok_move rfl (fun _ => rfl)) rfl rfl ?_
    refine TrL.op (ok_assign rfl (fun _ => rfl)) rfl rfl ?_
    refine TrL.fin ?_
    refine End.nxt ?_
    refine Tr.frz 5 [4] ⟨rfl, trivial⟩ (by simp only [lenMax]; omega) rfl ?_
    refine Tr.ret ?_
    exact Rts.res1 (fn := Try.f80) rfl (.r rfl (by first | rfl | omega | (simp; done) | (simp; omega) | assumption) <| .nil)

set_option maxRecDepth 100000 in
theorem ct_RepeatN (z : Int) (n : Nat) (h0 : 0 < n) (hn : n ≤ 1000) : CtN Try.prog 102 [kRd (eL eI) [z], kI n] (fun t => kOsl t n) (cArr false 3 eI (List.replicate n z) n) := by
  refine CtN.mk Try.func102 rfl Try.ntmps102 rfl (fun w J => ?_)
  refine Tr.seq ?_
  refine Tr.rg ?_
  refine TrL.op (ok_assign rfl (fun _ => rfl)) rfl rfl ?_
  refine TrL.fin ?_
  refine End.nxt ?_
  refine Tr.seq ?_
  refine Tr.seq ?_
  refine Tr.rg ?_
  refine TrL.op (ok_move rfl (fun _ => rfl)) rfl rfl ?_
  refine TrL.op (ok_lss rfl (fun _ => rfl) rfl (fun _ => rfl)) rfl rfl ?_
  refine TrL.fin ?_
  refine End.nxt ?_
  refine Tr.cnd rfl ?_ ?_
  · intro h1
    replace h1 := of_decide_eq_true h1
    omega
  · intro h1
    replace h1 := Int.not_lt.1 (of_decide_eq_false h1)
    refine Tr.skip ?_
    refine End.nxt ?_
    refine Tr.seq ?_
    refine Tr.rg ?_
    refine TrL.op (ok_move rfl (fun _ => rfl)) rfl rfl ?_
    refine TrL.op (ok_lenJ rfl (fun _ => rfl)) rfl rfl ?_
    refine TrL.op (ok_convE ((1 : Nat) : Int) rfl (fun _ => rfl) (fun _ => by simp [IntKind.wrap_u64])) rfl rfl ?_
    refine TrL.op (ok_move rfl (fun _ => rfl)) rfl rfl ?_
    refine TrL.op (ok_convE (n : Int) rfl (fun _ => rfl) (fun _ => u64_nat (by omega))) rfl rfl ?_
    refine TrL.op (ok_call (fun hp => ct_bitsMul 1 n (by omega) (by omega)) (.a rfl (fun _ => rfl) <| .a rfl (fun _ => rfl) <| .nil)) rfl rfl ?_
    refine TrL.op (ok_move rfl (fun _ => rfl)) rfl rfl ?_
    refine TrL.op (ok_ext rfl (fun _ => rfl) rfl) rfl rfl ?_
    refine TrL.op (ok_ext rfl (fun _ => rfl) rfl) rfl rfl ?_
    refine TrL.op (ok_assign rfl (fun _ => rfl)) rfl rfl ?_
    refine TrL.op (ok_assign rfl (fun _ => rfl)) rfl rfl ?_
    refine TrL.fin ?_
    refine End.nxt ?_
    refine Tr.seq ?_
    refine Tr.seq ?_
    refine Tr.rg ?_
    refine TrL.op (ok_move rfl (fun _ => rfl)) rfl rfl ?_
    refine TrL.op (ok_gtr rfl (fun _ => rfl) rfl (fun _ => rfl)) rfl rfl ?_
    refine TrL.op (ok_move rfl (fun _ => rfl)) rfl rfl ?_
    refine TrL.gd rfl rfl rfl (ok_move rfl (fun _ => rfl)) rfl rfl ?_
    refine TrL.gd rfl rfl rfl (ok_gtr rfl id rfl (fun _ => rfl)) rfl rfl ?_
    refine TrL.op (ok_or rfl (fun _ => rfl) rfl (fun hp h => gdF2 ((fun _ => rfl) hp) h)) rfl rfl ?_
    refine TrL.fin ?_
    refine End.nxt ?_
    refine Tr.cnd rfl ?_ ?_
    · intro h4
      try simp only [decide_eq_true_eq, Bool.or_eq_true] at h4
      rw [Nat.one_mul] at h4
      omega
    · intro h4
      try simp only [decide_eq_false_iff_not, Bool.or_eq_false_iff, Int.not_lt] at h4
      refine Tr.skip ?_
      refine End.nxt ?_
      refine Tr.seq ?_
      refine Tr.rg ?_
      refine TrL.op (ok_move rfl (fun _ => rfl)) rfl rfl ?_
      refine TrL.op (ok_convE (n : Int) rfl (fun _ => rfl) (fun _ => by rw [Nat.one_mul]; exact W_in (by omega) (by omega))) rfl rfl ?_
      refine TrL.new (ok_makeN eI 30 rfl (fun _ => rfl) rfl (fun _ => rfl) rfl rfl rfl (fun _ => by omega)) rfl rfl rfl rfl ?_
      refine TrL.op (ok_assign rfl (fun _ => rfl)) rfl rfl ?_
      refine TrL.fin ?_
      refine End.nxt ?_
      refine Tr.seq ?_
      refine Tr.rg ?_
      refine TrL.op (ok_move rfl (fun _ => rfl)) rfl rfl ?_
      refine TrL.op (ok_move rfl (fun _ => rfl)) rfl rfl ?_
      refine TrL.cpJ (1) rfl rfl rfl (by omega) (by simp) (by simp; omega) rfl ?_
      refine TrL.op (ok_assign rfl (fun _ => rfl)) rfl rfl ?_
      refine TrL.fin ?_
      refine End.nxt ?_
      refine Tr.for (σ := Nat) [⟨7, true, _, _⟩] [] (fun m => [⟨8, true, [], kI (m : Int)⟩]) (fun m => [⟨30, [], cArr false 3 eI (rowN z n m) n⟩]) (fun m => 0 < m ∧ m ≤ n) (fun m => m = n) (fun m => n - m) (1) ⟨by omega, by omega⟩ (Ent.mk (.i rfl (by first | rfl | omega | (simp; done) | (simp; omega) | assumption) <| .k rfl rfl <| .nil) (.a (rowN_one h0) (by omega) <| .nil) rfl) ?_ ?_
      · rintro m ⟨hm0, hmn⟩
        refine Tr.norm (S' := [⟨8, true, _, _⟩, ⟨7, true, _, _⟩]) (M' := [⟨30, _, _⟩]) rfl rfl ?_
        refine Tr.seq ?_
        refine Tr.seq ?_
        refine Tr.rg ?_
        refine TrL.op (ok_move rfl (fun _ => rfl)) rfl rfl ?_
        refine TrL.op (ok_move rfl (fun _ => rfl)) rfl rfl ?_
        refine TrL.op (ok_lenO rfl (fun _ => rfl)) rfl rfl ?_
        refine TrL.op (ok_lss rfl (fun _ => rfl) rfl (fun _ => rfl)) rfl rfl ?_
        refine TrL.fin ?_
        refine End.nxt ?_
        refine Tr.cnd rfl ?_ ?_
        · intro h8
          replace h8 := of_decide_eq_true h8
          refine Tr.skip ?_
          refine End.nxt ?_
          refine Tr.blk ?_
          refine Tr.drawC 7 30 mixed (by kernel_rfl) ?_
          refine RunC.op (ok_move rfl (fun _ => rfl)) rfl rfl ?_
          refine RunC.opA (ok_move rfl (fun _ => rfl)) (by kernel_rfl) rfl rfl ?_
          refine RunC.opA (ok_move rfl (fun _ => rfl)) (by kernel_rfl) rfl rfl ?_
          refine RunC.opA (ok_slOl rfl (fun _ => rfl) rfl (fun _ => rfl) (fun _ => ⟨by omega, by rfl⟩)) (by kernel_rfl) rfl rfl ?_
          refine RunC.opA (ok_move rfl (fun _ => rfl)) (by kernel_rfl) rfl rfl ?_
          refine RunC.opA (ok_move rfl (fun _ => rfl)) (by kernel_rfl) rfl rfl ?_
          refine RunC.opA (ok_slOh rfl (fun _ => rfl) rfl (fun _ => rfl) (fun _ => ⟨by omega, by rfl⟩)) (by kernel_rfl) rfl rfl ?_
          refine RunC.z (cp_OO (min m (n - m)) rfl rfl (by omega) (by omega) (by omega) (by omega)) rfl rfl rfl rfl rfl ?_
          refine TrL.op (ok_add rfl (fun _ => rfl) rfl (fun _ => rfl) (fun _ => by omega)) rfl rfl ?_
          refine TrL.op (ok_assign rfl (fun _ => rfl)) rfl rfl ?_
          refine TrL.fin ?_
          refine End.blk ?_
          exact End.lp (m + min m (n - m)) ⟨by omega, by omega⟩ (by omega) (Ent.mk (.i rfl (by omega) <| .k rfl rfl <| .nil) (.a (rowN_cpy hmn rfl) (by first | rfl | omega | (simp; done) | (simp; omega) | assumption) <| .nil) rfl)
        · intro h8
          replace h8 := Int.not_lt.1 (of_decide_eq_false h8)
          refine Tr.exit ?_
          refine Exs.thn ?_
          refine Exs.thn ?_
          refine Exs.here ?_
          exact End.cut (m) (by omega) (Ent.mk (.i rfl (by first | rfl | omega | (simp; done) | (simp; omega) | assumption) <| .k rfl rfl <| .nil) (.a (by first | rfl | omega | (simp; done) | (simp; omega) | assumption) (by first | rfl | omega | (simp; done) | (simp; omega) | assumption) <| .nil) rfl)
      · rintro _ rfl
        refine Tr.norm (S' := [⟨8, true, _, _⟩, ⟨7, true, _, _⟩]) (M' := [⟨30, _, _⟩]) rfl rfl ?_
        refine Tr.seq ?_
        refine Tr.rg ?_
        refine TrL.op (ok_move rfl (fun _ => rfl)) rfl rfl ?_
        refine TrL.op (ok_assign rfl (fun _ => rfl)) rfl rfl ?_
        refine TrL.fin ?_
        refine End.nxt ?_
        refine Tr.ret ?_
        exact Rts.resN (fn := Try.f102) (u := 30) rfl rfl (arr_res rowN_all rfl) (osl_res rfl) inferInstance

set_option maxRecDepth 100000 in
theorem ct_isNaN (x : Int) : Ct Try.prog 151 [kI x] (kB false) := by
  refine Ct.mk Try.func151 rfl Try.ntmps151 rfl (fun w J => ?_)
  refine Tr.seq ?_
  refine Tr.rg ?_
  refine TrL.op (ok_assign rfl (fun _ => rfl)) rfl rfl ?_
  refine TrL.fin ?_
  refine End.nxt ?_
  refine Tr.seq ?_
  refine Tr.rg ?_
  refine TrL.op (ok_move rfl (fun _ => rfl)) rfl rfl ?_
  refine TrL.op (ok_move rfl (fun _ => rfl)) rfl rfl ?_
  refine TrL.op (ok_neq rfl (fun _ => rfl) rfl (fun _ => rfl)) rfl rfl ?_
  refine TrL.op (ok_assign rfl (fun _ => rfl)) rfl rfl ?_
  refine TrL.fin ?_
  refine End.nxt ?_
  refine Tr.ret ?_
  exact Rts.res1 (fn := Try.f151) rfl (.b rfl (by simp) <| .nil)

set_option maxRecDepth 100000 in
theorem ct_cmpC (x y : Int) : Ct Try.prog 128 [kI x, kI y] (kI (cmpI [x] [y])) := by
  refine Ct.mk Try.func128 rfl Try.ntmps128 rfl (fun w J => ?_)
  refine Tr.seq ?_
  refine Tr.rg ?_
  refine TrL.op (ok_assign rfl (fun _ => rfl)) rfl rfl ?_
  refine TrL.fin ?_
  refine End.nxt ?_
  refine Tr.seq ?_
  refine Tr.rg ?_
  refine TrL.op (ok_move rfl (fun _ => rfl)) rfl rfl ?_
  refine TrL.op (ok_call (fun hp => ct_isNaN _) (.a rfl (fun _ => rfl) <| .nil)) rfl rfl ?_
  refine TrL.op (ok_assign rfl (fun _ => rfl)) rfl rfl ?_
  refine TrL.fin ?_
  refine End.nxt ?_
  refine Tr.seq ?_
  refine Tr.rg ?_
  refine TrL.op (ok_move rfl (fun _ => rfl)) rfl rfl ?_
  refine TrL.op (ok_call (fun hp => ct_isNaN _) (.a rfl (fun _ => rfl) <| .nil)) rfl rfl ?_
  refine TrL.op (ok_assign rfl (fun _ => rfl)) rfl rfl ?_
  refine TrL.fin ?_
  refine End.nxt ?_
  refine Tr.seq ?_
  refine Tr.seq ?_
  refine Tr.rg ?_
  refine TrL.op (ok_move rfl (fun _ => rfl)) rfl rfl ?_
  refine TrL.fin ?_
  refine End.nxt ?_
  refine Tr.cnd rfl ?_ ?_
  · intro h3
    simp at h3
  · intro h3
    refine Tr.skip ?_
    refine End.nxt ?_
    refine Tr.seq ?_
    refine Tr.seq ?_
    refine Tr.rg ?_
    refine TrL.op (ok_move rfl (fun _ => rfl)) rfl rfl ?_
    refine TrL.fin ?_
    refine End.nxt ?_
    refine Tr.cnd rfl ?_ ?_
    · intro h7
      simp at h7
    · intro h7
      refine Tr.skip ?_
      refine End.nxt ?_
      refine Tr.seq ?_
      refine Tr.seq ?_
      refine Tr.rg ?_
      refine TrL.op (ok_move rfl (fun _ => rfl)) rfl rfl ?_
      refine TrL.op (ok_move rfl (fun _ => rfl)) rfl rfl ?_
      refine TrL.op (ok_lss rfl (fun _ => rfl) rfl (fun _ => rfl)) rfl rfl ?_
      refine TrL.fin ?_
      refine End.nxt ?_
      refine Tr.cnd rfl ?_ ?_
      · intro h9
        replace h9 := of_decide_eq_true h9
        refine Tr.seq ?_
        refine Tr.rg ?_
        refine TrL.op (ok_assign rfl (fun _ => rfl)) rfl rfl ?_
        refine TrL.fin ?_
        refine End.nxt ?_
        refine Tr.ret ?_
        refine Rts.thn ?_
        exact Rts.res1 (fn := Try.f128) rfl (.i rfl (by rw [cmp1, if_pos h9]) <| .nil)
      · intro h9
        replace h9 := Int.not_lt.1 (of_decide_eq_false h9)
        refine Tr.skip ?_
        refine End.nxt ?_
        refine Tr.seq ?_
        refine Tr.seq ?_
        refine Tr.rg ?_
        refine TrL.op (ok_move rfl (fun _ => rfl)) rfl rfl ?_
        refine TrL.op (ok_move rfl (fun _ => rfl)) rfl rfl ?_
        refine TrL.op (ok_gtr rfl (fun _ => rfl) rfl (fun _ => rfl)) rfl rfl ?_
        refine TrL.fin ?_
        refine End.nxt ?_
        refine Tr.cnd rfl ?_ ?_
        · intro h11
          replace h11 := of_decide_eq_true h11
          refine Tr.seq ?_
          refine Tr.rg ?_
          refine TrL.op (ok_assign rfl (fun _ => rfl)) rfl rfl ?_
          refine TrL.fin ?_
          refine End.nxt ?_
          refine Tr.ret ?_
          refine Rts.thn ?_
          exact Rts.res1 (fn := Try.f128) rfl (.i rfl (by rw [cmp1, if_neg (by omega), if_pos (by omega)]) <| .nil)
        · intro h11
          replace h11 := Int.not_lt.1 (of_decide_eq_false h11)
          refine Tr.skip ?_
          refine End.nxt ?_
          refine Tr.seq ?_
          refine Tr.rg ?_
          refine TrL.op (ok_assign rfl (fun _ => rfl)) rfl rfl ?_
          refine TrL.fin ?_
          refine End.nxt ?_
          refine Tr.ret ?_
          exact Rts.res1 (fn := Try.f128) rfl (.i rfl (by rw [cmp1, if_neg (by omega), if_neg (by omega)]) <| .nil)

set_option maxRecDepth 100000 in
theorem ct_SlCmp (a b : List Int) : Ct Try.prog 113 [kRd (eL eI) a, kRd (eL eI) b] (kI (cmpI a b)) := by
  refine Ct.mk Try.func113 rfl Try.ntmps113 rfl (fun w J => ?_)
  refine Tr.fact (s := 0) rfl (fun _ _ h => lenB h) (fun hb => ?_)
  refine Tr.seq ?_
  refine Tr.rg ?_
  refine TrL.op (ok_assign rfl (fun _ => rfl)) rfl rfl ?_
  refine TrL.fin ?_
  refine End.nxt ?_
  refine Tr.seq ?_
  refine Tr.seq ?_
  refine Tr.rg ?_
  refine TrL.op (ok_move rfl (fun _ => rfl)) rfl rfl ?_
  refine TrL.op (ok_lenJ rfl (fun _ => rfl)) rfl rfl ?_
  refine TrL.op (ok_move rfl (fun _ => rfl)) rfl rfl ?_
  refine TrL.fin ?_
  refine End.nxt ?_
  refine Tr.for1 (σ := Nat) [⟨0, true, _, _⟩, ⟨1, true, _, _⟩, ⟨9, true, _, _⟩, ⟨10, true, _, _⟩] [] (fun k => [⟨11, true, [], kI (k : Int)⟩]) (fun k => []) (fun k => k ≤ a.length ∧ ∀ i, i < k → i < b.length ∧ nth a i = nth b i) (fun k => ∀ i, i < a.length → i < b.length ∧ nth a i = nth b i) (fun k => a.length - k) (0) ⟨Nat.zero_le _, fun i h => absurd h (by omega)⟩ (Ent.mk (.i rfl (by first | rfl | omega | (simp; done) | (simp; omega) | assumption) <| .k rfl rfl <| .k rfl rfl <| .k rfl rfl <| .k rfl rfl <| .nil) (.nil) rfl) ?_ ?_
  · rintro k ⟨hk0, hR0⟩
    refine Tr.norm (S' := [⟨11, true, _, _⟩, ⟨0, true, _, _⟩, ⟨1, true, _, _⟩, ⟨9, true, _, _⟩, ⟨10, true, _, _⟩]) (M' := []) rfl rfl ?_
    refine Tr.seq ?_
    refine Tr.rg ?_
    refine TrL.op (ok_lss rfl (fun _ => rfl) rfl (fun _ => rfl)) rfl rfl ?_
    refine TrL.fin ?_
    refine End.nxt ?_
    refine Tr.seq ?_
    refine Tr.cnd rfl ?_ ?_
    · intro h2
      replace h2 := of_decide_eq_true h2
      refine Tr.skip ?_
      refine End.nxt ?_
      refine Tr.seq ?_
      refine Tr.blk ?_
      refine Tr.seq ?_
      refine Tr.rg ?_
      refine TrL.op (ok_move rfl (fun _ => rfl)) rfl rfl ?_
      first | refine TrL.op (ok_idxN rfl (fun _ => rfl) rfl (fun _ => rfl) rfl (fun _ => by omega)) rfl rfl ?_ | refine TrL.op (ok_idxP rfl (fun _ => rfl) rfl (fun _ => rfl) rfl (fun _ => by omega)) rfl rfl ?_
      refine TrL.op (ok_ldP rfl (fun _ => rfl) rfl) rfl rfl ?_
      refine TrL.op (ok_assign rfl (fun _ => rfl)) rfl rfl ?_
      refine TrL.op (ok_assign rfl (fun _ => rfl)) rfl rfl ?_
      refine TrL.fin ?_
      refine End.nxt ?_
      refine Tr.seq ?_
      refine Tr.seq ?_
      refine Tr.rg ?_
      refine TrL.op (ok_move rfl (fun _ => rfl)) rfl rfl ?_
      refine TrL.op (ok_move rfl (fun _ => rfl)) rfl rfl ?_
      refine TrL.op (ok_lenJ rfl (fun _ => rfl)) rfl rfl ?_
      refine TrL.op (ok_geq rfl (fun _ => rfl) rfl (fun _ => rfl)) rfl rfl ?_
      refine TrL.fin ?_
      refine End.nxt ?_
      refine Tr.cnd rfl ?_ ?_
      · intro h4
        replace h4 := of_decide_eq_true h4
        refine Tr.seq ?_
        refine Tr.rg ?_
        refine TrL.op (ok_assign rfl (fun _ => rfl)) rfl rfl ?_
        refine TrL.fin ?_
        refine End.nxt ?_
        refine Tr.ret ?_
        refine Rts.thn ?_
        refine Rts.out ?_
        refine Rts.thn ?_
        refine Rts.thn ?_
        refine Rts.out ?_
        refine Rts.thn ?_
        refine Rts.thn ?_
        exact Rts.res1 (fn := Try.f113) rfl (.i rfl (by rw [cmpI_end (fun i h1 h2 => (hR0 i (by omega)).2), if_neg (by omega), if_pos (by omega)]) <| .nil)
      · intro h4
        replace h4 := Int.not_le.1 (of_decide_eq_false h4)
        refine Tr.skip ?_
        refine End.nxt ?_
        refine Tr.seq ?_
        refine Tr.rg ?_
        refine TrL.op (ok_move rfl (fun _ => rfl)) rfl rfl ?_
        refine TrL.op (ok_move rfl (fun _ => rfl)) rfl rfl ?_
        first | refine TrL.op (ok_idxN rfl (fun _ => rfl) rfl (fun _ => rfl) rfl (fun _ => by omega)) rfl rfl ?_ | refine TrL.op (ok_idxP rfl (fun _ => rfl) rfl (fun _ => rfl) rfl (fun _ => by omega)) rfl rfl ?_
        refine TrL.op (ok_ldP rfl (fun _ => rfl) rfl) rfl rfl ?_
        refine TrL.op (ok_assign rfl (fun _ => rfl)) rfl rfl ?_
        refine TrL.fin ?_
        refine End.nxt ?_
        refine Tr.seq ?_
        refine Tr.rg ?_
        refine TrL.op (ok_move rfl (fun _ => rfl)) rfl rfl ?_
        refine TrL.op (ok_move rfl (fun _ => rfl)) rfl rfl ?_
        refine TrL.op (ok_call (fun hp => ct_cmpC _ _) (.a rfl (fun _ => rfl) <| .a rfl (fun _ => rfl) <| .nil)) rfl rfl ?_
        refine TrL.op (ok_assign rfl (fun _ => rfl)) rfl rfl ?_
        refine TrL.fin ?_
        refine End.nxt ?_
        refine Tr.seq ?_
        refine Tr.rg ?_
        refine TrL.op (ok_move rfl (fun _ => rfl)) rfl rfl ?_
        refine TrL.op (ok_neq rfl (fun _ => rfl) rfl (fun _ => rfl)) rfl rfl ?_
        refine TrL.fin ?_
        refine End.nxt ?_
        refine Tr.cnd rfl ?_ ?_
        · intro h8
          replace h8 := of_decide_eq_true h8
          refine Tr.seq ?_
          refine Tr.rg ?_
          refine TrL.op (ok_move rfl (fun _ => rfl)) rfl rfl ?_
          refine TrL.op (ok_assign rfl (fun _ => rfl)) rfl rfl ?_
          refine TrL.fin ?_
          refine End.nxt ?_
          refine Tr.ret ?_
          refine Rts.out ?_
          refine Rts.thn ?_
          refine Rts.thn ?_
          refine Rts.out ?_
          refine Rts.thn ?_
          refine Rts.thn ?_
          exact Rts.res1 (fn := Try.f113) rfl (.i rfl (by rw [cmpI_at (k := k) (by omega) (by omega) (fun i hi => (hR0 i hi).2) (fun e => h8 (by rw [e, cmpI_self])), cmp1]; exact cmp_sw (fun e => h8 (by rw [e, cmpI_self]))) <| .nil)
        · intro h8
          replace h8 := Classical.not_not.1 (of_decide_eq_false h8)
          refine Tr.skip ?_
          refine End.blk ?_
          refine End.nxt ?_
          refine Tr.rg ?_
          refine TrL.op (ok_add rfl (fun _ => rfl) rfl (fun _ => rfl) (fun _ => by omega)) rfl rfl ?_
          refine TrL.op (ok_move rfl (fun _ => rfl)) rfl rfl ?_
          refine TrL.fin ?_
          exact End.lp (k + 1) ⟨by omega, all_succ hR0 ⟨by omega, Classical.byContradiction fun hh => cmp_ne hh h8⟩⟩ (by omega) (Ent.mk (.i rfl (by first | rfl | omega | (simp; done) | (simp; omega) | assumption) <| .k rfl rfl <| .k rfl rfl <| .k rfl rfl <| .k rfl rfl <| .nil) (.nil) rfl)
    · intro h2
      replace h2 := Int.not_lt.1 (of_decide_eq_false h2)
      refine Tr.exit ?_
      refine Exs.thn ?_
      refine Exs.thn ?_
      refine Exs.here ?_
      exact End.cut (k) (fun i hi => hR0 i (by omega)) (Ent.mk (.i rfl (by first | rfl | omega | (simp; done) | (simp; omega) | assumption) <| .k rfl rfl <| .k rfl rfl <| .k rfl rfl <| .k rfl rfl <| .nil) (.nil) rfl)
  · intro k hE0
    refine End.norm (S' := [⟨11, true, _, _⟩, ⟨0, true, _, _⟩, ⟨1, true, _, _⟩, ⟨9, true, _, _⟩, ⟨10, true, _, _⟩]) (M' := []) rfl rfl ?_
    refine End.nxt ?_
    refine Tr.seq ?_
    refine Tr.seq ?_
    refine Tr.rg ?_
    refine TrL.op (ok_move rfl (fun _ => rfl)) rfl rfl ?_
    refine TrL.op (ok_lenJ rfl (fun _ => rfl)) rfl rfl ?_
    refine TrL.op (ok_move rfl (fun _ => rfl)) rfl rfl ?_
    refine TrL.op (ok_lenJ rfl (fun _ => rfl)) rfl rfl ?_
    refine TrL.op (ok_lss rfl (fun _ => rfl) rfl (fun _ => rfl)) rfl rfl ?_
    refine TrL.fin ?_
    refine End.nxt ?_
    refine Tr.cnd rfl ?_ ?_
    · intro h11
      replace h11 := of_decide_eq_true h11
      refine Tr.seq ?_
      refine Tr.rg ?_
      refine TrL.op (ok_assign rfl (fun _ => rfl)) rfl rfl ?_
      refine TrL.fin ?_
      refine End.nxt ?_
      refine Tr.ret ?_
      refine Rts.thn ?_
      exact Rts.res1 (fn := Try.f113) rfl (.i rfl (by rw [cmpI_end (fun i h1 h2 => (hE0 i (by omega)).2), if_pos (by omega)]) <| .nil)
    · intro h11
      replace h11 := Int.not_lt.1 (of_decide_eq_false h11)
      refine Tr.skip ?_
      refine End.nxt ?_
      refine Tr.seq ?_
      refine Tr.rg ?_
      refine TrL.op (ok_assign rfl (fun _ => rfl)) rfl rfl ?_
      refine TrL.fin ?_
      refine End.nxt ?_
      refine Tr.ret ?_
      exact Rts.res1 (fn := Try.f113) rfl (.i rfl (by rw [cmpI_end (fun i h1 h2 => (hE0 i (by omega)).2), if_neg (by omega), if_neg (by (have : ∀ i, i < a.length → i < b.length := fun i hi => (hE0 i hi).1); exact le_of_all this)]) <| .nil)

set_option maxRecDepth 100000 in
theorem ct_ocmp (a b : Ori) : Ct Try.prog 69 [kRd eO a, kRd eO b] (kI (cmpO a b)) := by
  refine Ct.mk Try.func69 rfl Try.ntmps69 rfl (fun w J => ?_)
  refine Tr.seq ?_
  refine Tr.rg ?_
  refine TrL.new (ok_box 2 rfl (fun _ => rfl) rfl) rfl rfl rfl rfl ?_
  refine TrL.new (ok_box 3 rfl (fun _ => rfl) rfl) rfl rfl rfl rfl ?_
  refine TrL.op (ok_assign rfl (fun _ => rfl)) rfl rfl ?_
  refine TrL.fin ?_
  refine End.nxt ?_
  refine Tr.seq ?_
  refine Tr.seq ?_
  refine Tr.rg ?_
  refine TrL.op (ok_fldO rfl (fun _ => rfl)) rfl rfl ?_
  refine TrL.op (ok_ldB rfl (fun _ => rfl) rfl) rfl rfl ?_
  refine TrL.op (ok_fldO rfl (fun _ => rfl)) rfl rfl ?_
  refine TrL.op (ok_ldB rfl (fun _ => rfl) rfl) rfl rfl ?_
  refine TrL.op (ok_call (fun hp => ct_SlCmp _ _) (.a rfl (fun _ => rfl) <| .a rfl (fun _ => rfl) <| .nil)) rfl rfl ?_
  refine TrL.op (ok_assign rfl (fun _ => rfl)) rfl rfl ?_
  refine TrL.fin ?_
  refine End.nxt ?_
  refine Tr.seq ?_
  refine Tr.rg ?_
  refine TrL.op (ok_move rfl (fun _ => rfl)) rfl rfl ?_
  refine TrL.op (ok_neq rfl (fun _ => rfl) rfl (fun _ => rfl)) rfl rfl ?_
  refine TrL.fin ?_
  refine End.nxt ?_
  refine Tr.cnd rfl ?_ ?_
  · intro h2
    replace h2 := of_decide_eq_true h2
    refine Tr.seq ?_
    refine Tr.rg ?_
    refine TrL.op (ok_move rfl (fun _ => rfl)) rfl rfl ?_
    refine TrL.op (ok_assign rfl (fun _ => rfl)) rfl rfl ?_
    refine TrL.fin ?_
    refine End.nxt ?_
    refine Tr.ret ?_
    refine Rts.thn ?_
    exact Rts.res1 (fn := Try.f69) rfl (.i rfl (by unfold cmpO; rw [if_pos h2]) <| .nil)
  · intro h2
    replace h2 := Classical.not_not.1 (of_decide_eq_false h2)
    refine Tr.skip ?_
    refine End.nxt ?_
    refine Tr.seq ?_
    refine Tr.rg ?_
    refine TrL.op (ok_fldO rfl (fun _ => rfl)) rfl rfl ?_
    refine TrL.op (ok_ldB rfl (fun _ => rfl) rfl) rfl rfl ?_
    refine TrL.op (ok_fldO rfl (fun _ => rfl)) rfl rfl ?_
    refine TrL.op (ok_ldB rfl (fun _ => rfl) rfl) rfl rfl ?_
    refine TrL.op (ok_call (fun hp => ct_SlCmp _ _) (.a rfl (fun _ => rfl) <| .a rfl (fun _ => rfl) <| .nil)) rfl rfl ?_
    refine TrL.op (ok_assign rfl (fun _ => rfl)) rfl rfl ?_
    refine TrL.fin ?_
    refine End.nxt ?_
    refine Tr.ret ?_
    exact Rts.res1 (fn := Try.f69) rfl (.i rfl (by unfold cmpO; rw [if_neg (by omega)]) <| .nil)

set_option maxRecDepth 100000 in
theorem ct_cloneN (p : List Int) (hn : p.length ≤ 1000000) (h0 : 0 < p.length) : CtN Try.prog 75 [kRd (eL eI) p] (fun t => kOsl t p.length) (cArr false 3 eI p p.length) := by
  refine CtN.mk Try.func75 rfl Try.ntmps75 rfl (fun w J => ?_)
  refine Tr.seq ?_
  refine Tr.rg ?_
  refine TrL.op (ok_assign rfl (fun _ => rfl)) rfl rfl ?_
  refine TrL.fin ?_
  refine End.nxt ?_
  refine Tr.seq ?_
  refine Tr.seq ?_
  refine Tr.rg ?_
  refine TrL.op (ok_move rfl (fun _ => rfl)) rfl rfl ?_
  refine TrL.op (ok_eqlNilJ rfl (fun _ => rfl)) rfl rfl ?_
  refine TrL.fin ?_
  refine End.nxt ?_
  refine Tr.exB (s := 4) rfl (fun b1 q1 => ?_)
  refine Tr.cnd rfl ?_ ?_
  · intro h1
    exact absurd (congrArg List.length (q1 h1)) (by simp only [List.length_nil]; omega)
  · intro h1
    refine Tr.skip ?_
    refine End.nxt ?_
    refine Tr.seq ?_
    refine Tr.rg ?_
    refine TrL.new (ok_bsl0 eI 5) rfl rfl rfl rfl ?_
    refine TrL.op (ok_move rfl (fun _ => rfl)) rfl rfl ?_
    refine TrL.app rfl rfl rfl rfl rfl rfl rfl rfl (by first | omega | (simp only [List.length_cons, List.length_nil]; omega)) (by first | omega | (simp only [List.length_cons, List.length_nil]; omega)) ?_
    refine TrL.norm (S' := [⟨_, _, _, _⟩, ⟨_, _, _, _⟩, ⟨_, _, _, _⟩, ⟨_, _, _, _⟩, ⟨_, _, _, _⟩, ⟨_, _, _, _⟩, ⟨_, _, _, _⟩, ⟨_, _, _, _⟩]) rfl rfl ?_
    refine TrL.op (ok_assign rfl (fun _ => rfl)) rfl rfl ?_
    refine TrL.fin ?_
    refine End.nxt ?_
    refine Tr.ret ?_
    exact Rts.resN (fn := Try.f75) (u := 5) rfl rfl (arr_res (by first | rfl | omega | (simp; done) | (simp; omega) | assumption) (by first | rfl | omega | (simp; done) | (simp; omega) | assumption)) (osl_res (by first | rfl | omega | (simp; done) | (simp; omega) | assumption)) inferInstance

end Go.Fl

/- The search, one neighbour after another; errors of lists of origamis. Plain Lean, no program in sight. -/
namespace Go.Fl
/-- The list, when k squares have been looked at, and j neighbours of the next. -/
def srch (o : Ori) (F : List Int) (s : Int) (k j : Nat) : List Int := addL F (bfsTo o F s k) ((stp o (nth (bfsTo o F s k) k)).take j)
section
variable {o : Ori} {F : List Int} {s : Int} {k j : Nat}
theorem srch_zero : srch o F s k 0 = bfsTo o F s k := rfl
theorem srch_two (h : k < (bfsTo o F s k).length) : srch o F s k 2 = bfsTo o F s (k + 1) := by rw [bfsTo, if_pos h]; rfl
theorem srch_succ (hj : j < 2) : srch o F s k (j + 1) = addN F (srch o F s k j) (nth (stp o (nth (bfsTo o F s k) k)) j) := by
  unfold srch
  rw [take_succ_nth (by simpa [stp] using hj), addL_snoc]
theorem srch_new (hj : j < 2) (h : nth (stp o (nth (bfsTo o F s k) k)) j ∉ F ++ srch o F s k j) : srch o F s k (j + 1) = srch o F s k j ++ [nth (stp o (nth (bfsTo o F s k) k)) j] := by rw [srch_succ hj, addN_new h]
theorem srch_in (hj : j < 2) (h : nth (stp o (nth (bfsTo o F s k) k)) j ∈ F ++ srch o F s k j) : srch o F s k (j + 1) = srch o F s k j := by rw [srch_succ hj, addN_in h]
theorem srch_x (v : Valid o) (h0 : Good o.1.length (F ++ [s])) (h : k < (bfsTo o F s k).length) : Sq o.1.length (nth (bfsTo o F s k) k) := (bfsTo_good v h0 k).rng _ (List.mem_append_right _ (nth_mem h))
theorem srch_y (v : Valid o) (h0 : Good o.1.length (F ++ [s])) (h : k < (bfsTo o F s k).length) (hj : j < 2) : Sq o.1.length (nth (stp o (nth (bfsTo o F s k) k)) j) := stp_nth_sq v (srch_x v h0 h) hj
theorem srch_good (v : Valid o) (h0 : Good o.1.length (F ++ [s])) (h : k < (bfsTo o F s k).length) : Good o.1.length (F ++ srch o F s k j) :=
  (bfsTo_good v h0 k).addL fun y hy => stp_sq v (srch_x v h0 h) y (List.mem_of_mem_take hy)
theorem srch_len (v : Valid o) (h0 : Good o.1.length (F ++ [s])) (h : k < (bfsTo o F s k).length) : F.length + (srch o F s k j).length ≤ o.1.length := by
  have := (srch_good (j := j) v h0 h).len
  rwa [List.length_append] at this
end
def connE (l : List Ori) : Int := orE (fstE (l.map chkO)) (fstE (l.map splE))
theorem connE_one {o : Ori} : connE [o] = chk1 o := by
  unfold connE chk1
  simp only [List.map_cons, List.map_nil, fstE]
  unfold orE
  by_cases h1 : chkO o = 0
  · simp [h1]; intro h; exact h.symm
  · simp [h1]
def chk2 (a b : Ori) : Int := orE (chkO a) (orE (chkO b) (if 1 < (comps a a.1.length).length ∨ 1 < (comps b b.1.length).length then 16 else 0))
theorem connE_two {a b : Ori} : connE [a, b] = chk2 a b := by
  unfold connE chk2
  simp only [List.map_cons, List.map_nil, fstE]
  unfold orE splE
  by_cases h1 : chkO a = 0
  · by_cases h2 : chkO b = 0
    · by_cases h3 : 1 < (comps a a.1.length).length
      · simp [h1, h2, h3]
      · simp [h1, h2, h3]
    · simp [h1, h2]
  · simp [h1]
theorem chk2_zero {a b : Ori} (h : chk2 a b = 0) : Valid a ∧ Conn a ∧ Valid b ∧ Conn b := by
  unfold chk2 at h
  obtain ⟨h1, h2⟩ := orE_zero.1 h
  obtain ⟨h2, h3⟩ := orE_zero.1 h2
  split at h3
  · cases h3
  · rename_i hn
    exact ⟨valid_of h1, by unfold Conn; omega, valid_of h2, by unfold Conn; omega⟩
theorem splE_pos {o : Ori} (h : 1 < (comps o o.1.length).length) : splE o = 16 := if_pos h
theorem splE_zero {o : Ori} (h : ¬ 1 < (comps o o.1.length).length) : splE o = 0 := if_neg h
/-! ### The label, up to a square -/
def bst (o : Ori) (k : Nat) : Ori := if k = 0 then ([], []) else candO o (lblS o k)
def byL (o : Ori) (k : Nat) : List Int := if k = 0 then [] else numL o (lblS o k)
theorem bst_next {o : Ori} {k : Nat} (h : k = 0 ∨ cmpO (candO o k) (bst o k) < 0) : bst o (k + 1) = candO o k ∧ byL o (k + 1) = numL o k := by
  have e : lblS o (k + 1) = k := by
    by_cases h0 : k = 0
    · subst h0; exact lblS_one
    · unfold bst at h; rw [if_neg h0] at h
      exact lblS_pos (h.resolve_left h0)
  unfold bst byL
  rw [if_neg (by omega), if_neg (by omega), e]; exact ⟨rfl, rfl⟩
theorem bst_same {o : Ori} {k : Nat} (h0 : k ≠ 0) (h : ¬ cmpO (candO o k) (bst o k) < 0) : bst o (k + 1) = bst o k ∧ byL o (k + 1) = byL o k := by
  have e : lblS o (k + 1) = lblS o k := by
    unfold bst at h; rw [if_neg h0] at h
    exact lblS_neg h
  unfold bst byL
  simp only [if_neg h0, if_neg (show ¬ (k + 1 = 0) by omega), e, and_self]
theorem byL_empty {o : Ori} {k : Nat} (h : 0 < o.1.length) : (byL o k).isEmpty = decide (k = 0) := by
  unfold byL
  by_cases h0 : k = 0
  · rw [if_pos h0, decide_eq_true h0]; rfl
  · rw [if_neg h0, decide_eq_false h0]
    cases hh : numL o (lblS o k) with
    | nil => have := congrArg List.length hh; rw [numL_len] at this; simp only [List.length_nil] at this; omega
    | cons _ _ => rfl
theorem byL_ne {o : Ori} {k : Nat} (h : 0 < o.1.length) : numL o k ≠ [] := fun hh => by
  have := congrArg List.length hh; rw [numL_len] at this; simp only [List.length_nil] at this; omega
theorem bst_end {o : Ori} (h : 0 < o.1.length) : bst o o.1.length = lblO o ∧ byL o o.1.length = lblF o := by
  unfold bst byL lblO lblF candO
  rw [if_neg (by omega), if_neg (by omega)]; exact ⟨rfl, rfl⟩
end Go.Fl

/- The library's sorts as calls that change one block of the caller's own. No program in sight. -/
namespace Go.Fl
open Go Go.RowKit Go.Proofs Go.Shelf Go.Sort

theorem holds_arr {w : World} {b : Nat} {cs : Array Value} {ty : TypeId} {xs : List Int} {α : Type} [Inhabited α] {enc : α → Value} {d : Array α} (hb : w.heap[b]? = some (.cells cs ty (0, 0))) (hd : d.toList.map enc = xs.map (Value.int .i64))
    (hc : ∀ (i : Nat) x, xs[i]? = some x → cs[i]? = some (.int .i64 x)) : Holds enc w b 0 d := by
  intro j hj
  have h1 : (d.toList.map enc)[j]? = some (enc d[j]!) := by simp [hj]
  rw [hd, List.getElem?_map] at h1
  cases hx : xs[j]? with
  | none => rw [hx] at h1; cases h1
  | some x =>
    rw [hx] at h1
    simp only [Option.map_some, Option.some.injEq] at h1
    refine ⟨?_, ?_⟩
    · rw [← h1]
      simp only [World.cell?, hb, Nat.zero_add]
      simpa using hc j x hx
    · simp [World.frozen?, hb]
theorem but_sorted {α : Type} [Inhabited α] {enc : α → Value} {w : World} {b n cap : Nat} {d : Array α} {os : Array Obj} : But (.blk b cap) w (grow (putRow enc (Sort.ahead w n) b 0 d) os) := by
  refine ⟨rfl, rfl, rfl, by simp [grow], fun k hk hne => ?_⟩
  rw [heap_grow_old _ _ (by simpa using hk)]
  have : b ≠ k := fun e => hne cap (by rw [e])
  simp [putRow, mapBlock, Sort.ahead, Array.getElem?_modify, this]
theorem heap_sorted {α : Type} [Inhabited α] {enc : α → Value} {w : World} {g n : Nat} {os : Array Obj} {cur : Array Value} {e : TypeId} {fr : Nat × Nat} (d : Array α) (hb : w.heap[g]? = some (.cells cur e fr)) :
    (grow (putRow enc (Sort.ahead w n) g 0 d) os).heap[g]? = some (.cells (putCells enc 0 d cur) e fr) := by
  have hg : g < w.heap.size := (Array.getElem?_eq_some_iff.1 hb).1
  rw [heap_grow_old _ _ (by simpa using hg)]
  simp [putRow, mapBlock, Sort.ahead, Array.getElem?_modify, hb, onCells]
theorem im_but {J : JV} {b cap : Nat} {w w' : World} (him : Im J w) (hn : ∀ o, J b o = none) (h : But (.blk b cap) w w') : Im J w' := fun b' o v hv => by
  have h1 := him b' o v hv
  have hlt := World.block_lt_of_cell? _ _ h1
  rw [World.cell?_of_block (w := w) (h.block b' hlt (fun cap hb => by cases hb; rw [hn o] at hv; cases hv))]
  exact h1
/-- What a sort leaves behind, at a row of integers. -/
theorem ctb_of_sort {P : Program} {f : FuncId} {k0 : Know} {ks : List Know} {z : Bool} {ty : TypeId} {xs ys : List Int} {len : Nat} (_hlen : 0 < len) (hl : ys.length = xs.length)
    (hk0 : ∀ g v, k0 g v → kOsl 0 len g v)
    (h : ∀ (b cap : Nat) (w : World) (J : JV) (vs : List Value) (cs : Array Value), Im J w → w.heap[b]? = some (.cells cs ty (0, 0)) → xs.length = len → (∀ (i : Nat) x, xs[i]? = some x → cs[i]? = some (.int .i64 x)) → allK ⟨J, noM⟩ ks vs →
      Calls P f (.slice (some ⟨b, 0, none⟩) len cap :: vs).toArray w fun e w' => e = .returned (.tuple #[]) ∧ But (.blk b cap) w w' ∧ ∃ cs' : Array Value, w'.heap[b]? = some (.cells cs' ty (0, 0)) ∧ cs'.size = cs.size ∧ ∀ (i : Nat) x, ys[i]? = some x → cs'[i]? = some (.int .i64 x)) :
    CtB P f k0 ks (cArr z ty eI xs len) (cArr z ty eI ys len) (kDet (.tuple #[])) := by
  intro w J b cap him hn hb hct v vs hv hvs
  obtain ⟨h0, hz, cs, h1, h2, h3, h4, h5⟩ := hct
  have hv' := hk0 _ _ hv
  rcases hv' with ⟨hm, _⟩ | ⟨b', cap', hm, rfl⟩
  · simp [g1] at hm
  · simp only [g1, if_true, Option.some.injEq, Bk.blk.injEq] at hm
    obtain ⟨rfl, rfl⟩ := hm
    have hcs : ∀ (i : Nat) x, xs[i]? = some x → cs[i]? = some (.int .i64 x) := fun i x hx => by
      obtain ⟨ds, q1, q2⟩ := h5 i x hx
      have q1 : ds = [.int .i64 x] := q1
      subst q1
      have := q2 0 _ rfl
      simpa [eI, eInt] using this
    refine (h b cap w J vs cs him h1 h0 hcs hvs).mono fun e w' hh => ?_
    obtain ⟨rfl, hbut, cs', q1, q2, q3⟩ := hh
    refine ⟨_, J, rfl, hbut, JV.le_refl _, fun _ _ _ => rfl, im_but him hn hbut, rfl, ?_⟩
    refine ⟨by omega, hz, cs', q1, by rw [q2, h2], h3, h4, fun i x hx => ⟨[.int .i64 x], rfl, fun j v hj => ?_⟩⟩
    rcases j with _ | j
    · simp at hj; subst hj; simpa [eI, eInt] using q3 i x hx
    · simp at hj
theorem ctb_sort {P : Program} {ρ : Ren} (Ly : Lays.n189 P ρ) {z : Bool} {ty : TypeId} {xs : List Int} {len : Nat} (hlen : 0 < len) (hm : len ≤ 1000000) : CtB P (ρ.f 189) (kOsl 0 len) [] (cArr z ty eI xs len) (cArr z ty eI (xs.mergeSort fun x y => decide (x ≤ y)) len) (kDet (.tuple #[])) :=
  ctb_of_sort hlen (by simp) (fun _ _ h => h) fun b cap w J vs cs _ h1 h0 hcs hvs => by
    cases vs with
    | cons v vs => exact hvs.elim
    | nil =>
      subst h0
      have hH : Holds (Value.int .i64) w b 0 xs.toArray := holds_arr h1 (by simp) hcs
      have hblk : b < w.heap.size := (Array.getElem?_eq_some_iff.1 h1).1
      have hle : xs.length ≤ cs.size := by
        have h2 := List.getElem?_eq_getElem (l := xs) (i := xs.length - 1) (by omega)
        have := (Array.getElem?_eq_some_iff.1 (hcs _ _ h2)).1
        omega
      refine (Any.slices_Sort_int Ly b 0 cap xs w hH hblk (by omega)).mono fun e w' ⟨he, n, os, hw⟩ => ?_
      subst hw
      refine ⟨he, but_sorted, _, heap_sorted _ h1, by simp [putCells], fun i x hx => ?_⟩
      have hi := (List.getElem?_eq_some_iff.1 hx).1
      rw [List.length_mergeSort] at hi
      have hx2 := List.getElem?_eq_some_iff.1 hx
      simp only [putCells, Array.getElem?_mapIdx]
      rw [Array.getElem?_eq_getElem (show i < cs.size by omega)]
      simp [hi, hx2.2]
/-- slices.SortFunc at integers of a range that is named by α. -/
theorem ctb_sortF {P : Program} {ρ : Ren} (L : SlLaysF.n6 P ρ) {α : Type} [Inhabited α] (val : α → Int) (cf : α → α → Int) (hO : SWO (ltOf cf)) (g : Nat) (eg : ∀ args w, (callFunc g args).run P w = .ok (.enter g args) w)
    (hcmp : ∀ (x y : α) (w : World), Calls P g #[.int .i64 (val x), .int .i64 (val y)] w fun e w' => e = .returned (.int .i64 (cf x y)) ∧ ∃ q os', w' = grow (w.drewN q) os')
    {z : Bool} {ty : TypeId} (d : List α) {ys : List Int} {len : Nat} (hlen : 0 < len) (hm : len ≤ 1000000) (hl : d.length = len) (hys : ∀ d' : List α, d'.Perm d → d'.Pairwise (fun a b => ltOf cf b a = false) → d'.map val = ys) :
    CtB P (ρ.f 6) (kOsl 0 len) [kDet (.func (.func g) #[] #[])] (cArr z ty eI (d.map val) len) (cArr z ty eI ys len) (kDet (.tuple #[])) := by
  have hyl : ys.length = d.length := by
    rw [← hys (d.mergeSort fun a b => !ltOf cf b a) (List.mergeSort_perm _ _) ?_]
    · simp
    · have := List.pairwise_mergeSort (le := fun a b => !ltOf cf b a) (fun a b c h1 h2 => by simp only [Bool.not_eq_true'] at *; exact hO.ntrans _ _ _ h2 h1) (fun a b => by
        cases h : ltOf cf b a with
        | false => rfl
        | true =>
          cases h2 : ltOf cf a b with
          | false => simp
          | true => have := hO.trans _ _ _ h h2; rw [hO.irrefl] at this; cases this) d
      exact this.imp fun h => by simpa using h
  refine ctb_of_sort hlen (by rw [List.length_map]; exact hyl) (fun _ _ h => h) fun b cap w J vs cs _ h1 h0 hcs hvs => ?_
  match vs, hvs with
  | [v], hvs =>
    obtain rfl := hvs.1
    rw [List.length_map] at h0
    have hH : Holds (fun x => Value.int .i64 (val x)) w b 0 d.toArray := holds_arr h1 (by simp [List.map_map, Function.comp_def]) hcs
    have hblk : b < w.heap.size := (Array.getElem?_eq_some_iff.1 h1).1
    have hle : d.length ≤ cs.size := by
      have h2 := List.getElem?_eq_getElem (l := d.map val) (i := d.length - 1) (by rw [List.length_map]; omega)
      have := (Array.getElem?_eq_some_iff.1 (hcs _ _ h2)).1
      omega
    have hcl : CmpLays1 P g #[] (fun x => Value.int .i64 (val x)) cf b 0 d.toArray.size w := fun m os dk _ x y => by
      simpa using hcmp x y (sortWorld _ w b 0 m dk os)
    have hc := Any.slices_SortFunc L (fun x => Value.int .i64 (val x)) (fun _ => rfl) cf hO g #[] b 0 cap d.toArray w eg hcl hH hblk (by simp; omega)
    rw [show d.toArray.size = len by simp [hl]] at hc
    refine hc.mono fun e w' ⟨he, d', n, os, hp, hs, hw⟩ => ?_
    subst hw
    obtain ⟨hp1, hp2, hp3⟩ := hp
    have hd' : d'.size = len := by rw [hp1]; simp [hl]
    have hperm : d'.toList.Perm d := by
      have e1 : d'.extract 0 len = d' := by rw [← hd']; simp
      have e2 : d.toArray.extract 0 len = d.toArray := by rw [show len = d.toArray.size by simp [hl]]; simp
      rw [e1, e2] at hp3; simpa using hp3
    have hpw : d'.toList.Pairwise (fun a b => ltOf cf b a = false) := by
      rw [List.pairwise_iff_getElem]
      intro i j hi hj hij
      have hi' : i < d'.size := by simpa using hi
      have hj' : j < d'.size := by simpa using hj
      have := hs i j (Nat.zero_le _) hij (by omega)
      rw [getElem!_pos d' i hi', getElem!_pos d' j hj'] at this
      simpa using this
    have hmap := hys _ hperm hpw
    refine ⟨he, but_sorted, _, heap_sorted _ h1, by simp [putCells], fun i x hx => ?_⟩
    have hi := (List.getElem?_eq_some_iff.1 hx).1
    rw [← hmap, List.getElem?_map] at hx
    have hid : i < d'.size := by omega
    simp only [putCells, Array.getElem?_mapIdx]
    rw [Array.getElem?_eq_getElem (show i < cs.size by omega)]
    simp only [Array.getElem?_toList, Array.getElem?_eq_getElem hid, Option.map_some, Option.some.injEq] at hx
    simp [hid, hx]
  | [], hvs => exact hvs.elim
  | _ :: _ :: _, hvs => exact hvs.2.elim
end Go.Fl

/-
  DERIVED: THE SHELF's CONTRACTS AT THIS DUMP, IN PLAIN WORDS (tools/lay-plain.mjs out of 'YtphkjcmonjbpfaaSrtRaw.lean', which tools/lay-shelf.mjs wrote): THE SAME DECLARATIONS UNDER THE SAME NAMES: 'import', 'namespace', 'open', 'def', 'theorem' AND NOTHING ELSE: no command of the shelf's: FOR A HAND-IN. Each laying: the table of numbers ('.._ren') and one theorem, a field a fact of the dump's own or the kernel's comparison; each contract: ONE APPLICATION.
-/
namespace Go.Proofs
open Go.Shelf
def Try.lays189_ren : Go.Shelf.Ren := ⟨fun | 189 => 118 | 125 => 121 | 257 => 129 | 128 => 139 | 129 => 140 | 294 => 152 | 295 => 153 | 296 => 154 | 297 => 155 | 298 => 156 | 299 => 157 | 216 => 158 | 300 => 159 | 301 => 160 | 328 => 169 | 329 => 162 | 330 => 163 | 331 => 170 | 332 => 171 | 215 => 151 | 343 => 174 | n => n, fun | 28 => 22 | 3 => 3 | 46 => 128 | 0 => 0 | 51 => 144 | 53 => 146 | 4 => 4 | 183 => 137 | 182 => 136 | 131 => 141 | 5 => 5 | 9 => 9 | 218 => 163 | 222 => 167 | 228 => 173 | 229 => 174 | n => n, fun | n => n⟩
theorem Try.lays189 : Go.Proofs.Lays.n189 Try.prog Try.lays189_ren := {
  mixed := by kernel_rfl
  f125 := Try.func121.trans (congrArg some (by kernel_rfl))
  f128 := Try.func139.trans (congrArg some (by kernel_rfl))
  f129 := Try.func140.trans (congrArg some (by kernel_rfl))
  f189 := Try.func118.trans (congrArg some (by kernel_rfl))
  f215 := Try.func151.trans (congrArg some (by kernel_rfl))
  f216 := Try.func158.trans (congrArg some (by kernel_rfl))
  f257 := Try.func129.trans (congrArg some (by kernel_rfl))
  f294 := Try.func152.trans (congrArg some (by kernel_rfl))
  f295 := Try.func153.trans (congrArg some (by kernel_rfl))
  f296 := Try.func154.trans (congrArg some (by kernel_rfl))
  f297 := Try.func155.trans (congrArg some (by kernel_rfl))
  f298 := Try.func156.trans (congrArg some (by kernel_rfl))
  f299 := Try.func157.trans (congrArg some (by kernel_rfl))
  f300 := Try.func159.trans (congrArg some (by kernel_rfl))
  f301 := Try.func160.trans (congrArg some (by kernel_rfl))
  f328 := Try.func169.trans (congrArg some (by kernel_rfl))
  f329 := Try.func162.trans (congrArg some (by kernel_rfl))
  f330 := Try.func163.trans (congrArg some (by kernel_rfl))
  f331 := Try.func170.trans (congrArg some (by kernel_rfl))
  f332 := Try.func171.trans (congrArg some (by kernel_rfl))
  f343 := Try.func174.trans (congrArg some (by kernel_rfl))
  t0 := Try.underlying0
  a0 := Try.isAgg0
  z0 := Try.sizeOf0
  v0 := Try.zeroValue0
  t3 := Try.underlying3
  a3 := Try.isAgg3
  z3 := Try.sizeOf3
  v3 := Try.zeroValue3
  t4 := Try.underlying4
  a4 := Try.isAgg4
  z4 := Try.sizeOf4
  v4 := Try.zeroValue4
  t5 := Try.underlying5
  a5 := Try.isAgg5
  z5 := Try.sizeOf5
  v5 := Try.zeroValue5
  t9 := Try.underlying9
  a9 := Try.isAgg9
  z9 := Try.sizeOf9
  v9 := Try.zeroValue9
  t28 := Try.underlying22
  a28 := Try.isAgg22
  z28 := Try.sizeOf22
  v28 := Try.zeroValue22
  t46 := Try.underlying128
  a46 := Try.isAgg128
  z46 := Try.sizeOf128
  v46 := Try.zeroValue128
  t51 := Try.underlying144
  a51 := Try.isAgg144
  z51 := Try.sizeOf144
  v51 := Try.zeroValue144
  t53 := Try.underlying146
  a53 := Try.isAgg146
  z53 := Try.sizeOf146
  v53 := Try.zeroValue146
  t131 := Try.underlying141
  a131 := Try.isAgg141
  z131 := Try.sizeOf141
  v131 := Try.zeroValue141
  t182 := Try.underlying136
  a182 := Try.isAgg136
  z182 := Try.sizeOf136
  v182 := Try.zeroValue136
  t183 := Try.underlying137
  a183 := Try.isAgg137
  z183 := Try.sizeOf137
  v183 := Try.zeroValue137
  t218 := Try.underlying163
  a218 := Try.isAgg163
  z218 := Try.sizeOf163
  v218 := Try.zeroValue163
  t222 := Try.underlying167
  a222 := Try.isAgg167
  z222 := Try.sizeOf167
  v222 := Try.zeroValue167
  t228 := Try.underlying173
  a228 := Try.isAgg173
  z228 := Try.sizeOf173
  v228 := Try.zeroValue173
  t229 := Try.underlying174
  a229 := Try.isAgg174
  z229 := Try.sizeOf174
  v229 := Try.zeroValue174 }
def Try.sortF_ren : Go.Shelf.Ren := ⟨fun | 6 => 95 | 15 => 121 | 14 => 120 | 28 => 139 | 29 => 140 | 20 => 131 | 21 => 132 | 22 => 133 | 23 => 134 | 24 => 135 | 25 => 136 | 26 => 137 | 27 => 138 | 46 => 161 | 47 => 162 | 48 => 163 | 49 => 164 | 50 => 165 | 57 => 172 | n => n, fun | 22 => 22 | 24 => 3 | 25 => 38 | 3 => 3 | 39 => 128 | 0 => 0 | 53 => 144 | 55 => 146 | 4 => 4 | 46 => 137 | 45 => 136 | 50 => 141 | 5 => 5 | 9 => 9 | 66 => 163 | 70 => 167 | 76 => 173 | 77 => 174 | n => n, fun | n => n⟩
theorem Try.sortF : Go.Proofs.SlLaysF.n6 Try.prog Try.sortF_ren := {
  mixed := by kernel_rfl
  f6 := ⟨Try.f95.name, by decide, Try.func95.trans (congrArg some (by kernel_rfl))⟩
  f14 := ⟨Try.f120.name, by decide, Try.func120.trans (congrArg some (by kernel_rfl))⟩
  f15 := Try.func121.trans (congrArg some (by kernel_rfl))
  f20 := ⟨Try.f131.name, by decide, Try.func131.trans (congrArg some (by kernel_rfl))⟩
  f21 := ⟨Try.f132.name, by decide, Try.func132.trans (congrArg some (by kernel_rfl))⟩
  f22 := ⟨Try.f133.name, by decide, Try.func133.trans (congrArg some (by kernel_rfl))⟩
  f23 := ⟨Try.f134.name, by decide, Try.func134.trans (congrArg some (by kernel_rfl))⟩
  f24 := ⟨Try.f135.name, by decide, Try.func135.trans (congrArg some (by kernel_rfl))⟩
  f25 := ⟨Try.f136.name, by decide, Try.func136.trans (congrArg some (by kernel_rfl))⟩
  f26 := ⟨Try.f137.name, by decide, Try.func137.trans (congrArg some (by kernel_rfl))⟩
  f27 := ⟨Try.f138.name, by decide, Try.func138.trans (congrArg some (by kernel_rfl))⟩
  f28 := Try.func139.trans (congrArg some (by kernel_rfl))
  f29 := Try.func140.trans (congrArg some (by kernel_rfl))
  f46 := ⟨Try.f161.name, by decide, Try.func161.trans (congrArg some (by kernel_rfl))⟩
  f47 := Try.func162.trans (congrArg some (by kernel_rfl))
  f48 := Try.func163.trans (congrArg some (by kernel_rfl))
  f49 := ⟨Try.f164.name, by decide, Try.func164.trans (congrArg some (by kernel_rfl))⟩
  f50 := ⟨Try.f165.name, by decide, Try.func165.trans (congrArg some (by kernel_rfl))⟩
  f57 := ⟨Try.f172.name, by decide, Try.func172.trans (congrArg some (by kernel_rfl))⟩
  t0 := Try.underlying0
  a0 := Try.isAgg0
  z0 := Try.sizeOf0
  v0 := Try.zeroValue0
  t3 := Try.underlying3
  a3 := Try.isAgg3
  z3 := Try.sizeOf3
  v3 := Try.zeroValue3
  t4 := Try.underlying4
  a4 := Try.isAgg4
  z4 := Try.sizeOf4
  v4 := Try.zeroValue4
  t5 := Try.underlying5
  a5 := Try.isAgg5
  z5 := Try.sizeOf5
  v5 := Try.zeroValue5
  t9 := Try.underlying9
  a9 := Try.isAgg9
  z9 := Try.sizeOf9
  v9 := Try.zeroValue9
  t22 := Try.underlying22
  a22 := Try.isAgg22
  z22 := Try.sizeOf22
  v22 := Try.zeroValue22
  a24 := Try.isAgg3
  z24 := Try.sizeOf3
  t25 := Try.underlying38
  a25 := Try.isAgg38
  z25 := Try.sizeOf38
  v25 := Try.zeroValue38
  t39 := Try.underlying128
  a39 := Try.isAgg128
  z39 := Try.sizeOf128
  v39 := Try.zeroValue128
  t45 := Try.underlying136
  a45 := Try.isAgg136
  z45 := Try.sizeOf136
  v45 := Try.zeroValue136
  t46 := Try.underlying137
  a46 := Try.isAgg137
  z46 := Try.sizeOf137
  v46 := Try.zeroValue137
  t50 := Try.underlying141
  a50 := Try.isAgg141
  z50 := Try.sizeOf141
  v50 := Try.zeroValue141
  t53 := Try.underlying144
  a53 := Try.isAgg144
  z53 := Try.sizeOf144
  v53 := Try.zeroValue144
  t55 := Try.underlying146
  a55 := Try.isAgg146
  z55 := Try.sizeOf146
  v55 := Try.zeroValue146
  t66 := Try.underlying163
  a66 := Try.isAgg163
  z66 := Try.sizeOf163
  v66 := Try.zeroValue163
  t70 := Try.underlying167
  a70 := Try.isAgg167
  z70 := Try.sizeOf167
  v70 := Try.zeroValue167
  t76 := Try.underlying173
  a76 := Try.isAgg173
  z76 := Try.sizeOf173
  v76 := Try.zeroValue173
  t77 := Try.underlying174
  a77 := Try.isAgg174
  z77 := Try.sizeOf174
  v77 := Try.zeroValue174 }
end Go.Proofs

/- Slices that are nil just if they are empty. No program in sight. -/
namespace Go.Fl
open Go Go.RowKit
def kRn {α : Type} (e : Enc α) (xs : List α) : Know := fun g v => kRd (eL e) xs g v ∧ (xs = [] → v = .slice none 0 0)
instance {α : Type} (e : Enc α) (xs : List α) : KDep (kRn e xs) [] := ⟨fun h _ k => ⟨Enc.val.mono h k.1, k.2⟩⟩
theorem nil_rd {α : Type} {e : Enc α} {g : Gh} {v : Value} (h : kDet (.slice none 0 0) g v) : kRd (eL e) [] g v := ⟨[.slice none 0 0], ⟨none, 0, rfl, by simp [lenMax], .inl rfl⟩, h⟩
theorem nil_rn {α : Type} {e : Enc α} {g : Gh} {v : Value} (h : kDet (.slice none 0 0) g v) : kRn e [] g v := ⟨nil_rd h, fun _ => h⟩
theorem rd_rn {α : Type} {e : Enc α} {xs : List α} (hx : xs ≠ []) {g : Gh} {v : Value} (h : kRd (eL e) xs g v) : kRn e xs g v := ⟨h, fun e => absurd e hx⟩
theorem blk_nil2 {α β : Type} {e : Enc α} {f : Enc β} {g : Gh} {b : Bk} {o : Option Obj} (h : cBlk [kDet (.slice none 0 0), kDet (.slice none 0 0)] g b o) : cBlk [kRd (eL e) [], kRd (eL f) []] g b o := by
  obtain ⟨cs, ty, h1, h2⟩ := h
  refine ⟨cs, ty, h1, ?_⟩
  match hc : cs.toList, h2 with
  | [v1, v2], h2 => exact ⟨nil_rd h2.1, nil_rd h2.2.1, trivial⟩
section
variable {P : Program} {c : Ctx} {S : Slots} {M : Conts} {p : Bool} {d : Option Tmp} {ty : TypeId} {pos : String} {af : Array Edge} {gd : Option (Nat × Bool)} {x y : Operand} {b b' : Bool} {Q : Exit → Act → World → Prop}
theorem ok_eqlNilN {t et t' : TypeId} [ht : TySl P t et] {α : Type} {e : Enc α} {xs : List α} (hx : opK S x = some (b, kRn e xs)) (hb : p = true → b = true) :
    OpOk P c S M ⟨d, .binOp .eql t x (.const (.slice none 0 0)) t', ty, pos, af, gd⟩ p (kB xs.isEmpty) none :=
  OpOk.pure fun hp a g w _ _ ho => by
    obtain ⟨⟨cs, h1, h2⟩, hn⟩ := ho x (by simp [Op.operands]) b _ hx (hb hp)
    obtain ⟨ad, cap, rfl, _, h4⟩ := h1
    have he : a.eval (.const (.slice none 0 0)) = .slice none 0 0 := rfl
    have h2' : a.eval x = .slice ad xs.length cap := h2
    have hv : ad.isNone = xs.isEmpty := by
      rcases h4 with h4 | ⟨_, _, h4, _⟩
      · have := hn h4
        subst h4
        rw [h2'] at this
        simp only [List.length_nil, Value.slice.injEq] at this
        rw [this.1]; rfl
      · subst h4
        cases xs with
        | nil => have := hn rfl; rw [h2'] at this; simp at this
        | cons _ _ => rfl
    exact ⟨.bool ad.isNone, by simp only [execOp, h2', he, eqGuard_at_slice, Sem.run_bind, Sem.run_pure, Result.andThen_ok, Lib.run_eql_slice_nil w t et ad _ _ 0 0 ht.h], by rw [hv]; rfl⟩
theorem End.re {s : Nat} {k k' : Know} {dep : List Nat} (hl : look S s = some (true, k)) (hc : ∀ g v, k g v → k' g v) [hk : KDep k' dep] (hs : subT dep (tags M) = true) (K : End c (⟨s, true, dep, k'⟩ :: S) M Q) : End c S M Q := fun a g w h =>
  K a g w ⟨h.ok, fun t b k0 hl' => by
    simp only [look] at hl'
    cases hb : Nat.beq s t with
    | true =>
      rw [hb] at hl'
      simp only [cond_true, Option.some.injEq, Prod.mk.injEq] at hl'
      obtain ⟨rfl, rfl⟩ := hl'
      rw [← Nat.eq_of_beq_eq_true hb]
      exact ⟨fun _ => hc _ _ ((h.slots s _ _ hl).1 rfl), fun hf => by cases hf⟩
    | false =>
      rw [hb] at hl'
      exact h.slots t b k0 hl', h.conts, h.dom, h.nodup, fun e he => by
    rcases List.mem_cons.1 he with rfl | he
    · exact ⟨hk, subT_spec hs⟩
    · exact h.sdep e he, h.cdep, h.defers, h.size⟩
theorem End.rnR {s : Nat} {α : Type} {e : Enc α} {u v : List α} (hl : look S s = some (true, kRn e u)) (he : u = v) (K : End c (⟨s, true, [], kRd (eL e) v⟩ :: S) M Q) : End c S M Q :=
  End.re hl (fun _ _ h => by subst he; exact h.1) rfl K
theorem Tr.rnR {code : Code} {s : Nat} {α : Type} {e : Enc α} {u v : List α} (hl : look S s = some (true, kRn e u)) (he : u = v) (K : Tr P c (⟨s, true, [], kRd (eL e) v⟩ :: S) M code Q) : Tr P c S M code Q :=
  Tr.re hl (fun _ _ h => by subst he; exact h.1) rfl K
end
/-! ### What is put together from two new things, in a region that draws its order -/
class KsHas (ks : List Know) (t : Nat) : Prop where
  has : ∀ {g : Gh} {vs : List Value}, allK g ks vs → g.M t ≠ none
instance {k : Know} {ks : List Know} {t : Nat} [h : KHas k t] : KsHas (k :: ks) t := ⟨fun {_ vs} hk => by
  cases vs with
  | nil => exact hk.elim
  | cons v vs => exact h.has hk.1⟩
instance (priority := low) {k : Know} {ks : List Know} {t : Nat} [h : KsHas ks t] : KsHas (k :: ks) t := ⟨fun {_ vs} hk => by
  cases vs with
  | nil => exact hk.elim
  | cons v vs => exact h.has hk.2⟩
instance {ks : List Know} {t : Nat} [h : KsHas ks t] : KHas (kAgg ks) t := ⟨fun ⟨_, _, hk⟩ => h.has hk⟩
section
variable {P : Program} {c : Ctx} {Q : Exit → Act → World → Prop} {S : Slots} {M M0 : Conts} {ops : Array Oper} {rest : List Oper} {d : Nat} {oop : Op} {ty : TypeId} {pos : String} {af : Array Edge} {m : Nat}
theorem RunD.opN2 {k : Know} {dep : List Nat} {u v : Nat} (h : OpOk P c S M0 ⟨some d, oop, ty, pos, af, none⟩ true k none) [hk : KDep k dep] [hu : KHas k u] [hv : KHas k v] (hd : subT dep [u, v] = true) (hs : subT [u, v] (tags M) = true) (hn : Nat.blt d c.n = true)
    (K : RunD P c ops Q M0 rest m (⟨d, true, dep, k⟩ :: S) M) : RunD P c ops Q M0 (⟨some d, oop, ty, pos, af, none⟩ :: rest) (m + 1) S M :=
  ⟨⟨d, true, dep, k, none⟩, ⟨rfl, h, hk, fun t ht => .inr ⟨subT_spec hs t (subT_spec hd t ht), by
    have := subT_spec hd t ht
    simp only [List.mem_cons, List.not_mem_nil, or_false] at this
    rcases this with rfl | rfl
    · exact hu
    · exact hv⟩, fun _ h => (by cases h), by simpa [Nat.blt_eq] using hn, .inl ⟨rfl, rfl⟩⟩, K⟩
end
end Go.Fl
