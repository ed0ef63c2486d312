/- THE LAW OrigamiEuler HOLDS FOR EVERY INPUT: whatever the arguments, the call returns true, and each argument reads behind it as before. Conditions: those of the given row (its listed variables as the program lays them). -/
import Derived.Test.YtpbcelfhhpafeaaM4
import Derived.Shelf.SlSortCmp.WholeK
import Derived.Test.YtpbcelfhhpafeaaRows

/- Cylinders: rows one above another, how high a band grows, what the program makes of them. Plain Lean, no program in sight. -/
namespace Go.Fl
theorem mem_nth' {α : Type} [Inhabited α] {l : List α} {x : α} (h : x ∈ l) : ∃ i, i < l.length ∧ nth l i = x := by
  obtain ⟨i, hi, rfl⟩ := List.getElem_of_mem h
  exact ⟨i, hi, nth_of_get? (List.getElem?_eq_getElem hi)⟩
abbrev BandT : Type := Int × Int × List (List Int)
def rowU (o : Ori) (x : Int) (i : Nat) : List Int := orb o.1 (it o.2 i x)
def rowsT (o : Ori) (x : Int) (i : Nat) : List (List Int) := tab i (rowU o x)
def posR (o : Ori) (l : List Int) : Bool := l.any (posO o)
def stopB (o : Ori) (m : Bool) (S : List Int) (x : Int) (i : Nat) : Bool := (m || posR o (rowU o x i)) || decide (it o.2 i x ∈ S ++ (rowsT o x i).flatten)
def hF (o : Ori) (m : Bool) (S : List Int) (x : Int) : Nat → Nat → Nat
  | 0, i => i
  | f + 1, i => if stopB o m S x i = true then i else hF o m S x f (i + 1)
def hgt (o : Ori) (m : Bool) (S : List Int) (x : Int) : Nat := hF o m S x o.1.length 1
theorem rowsT_len {o : Ori} {x : Int} {i : Nat} : (rowsT o x i).length = i := tab_len
theorem rowsT_succ {o : Ori} {x : Int} {i : Nat} : rowsT o x (i + 1) = rowsT o x i ++ [rowU o x i] := tab_succ
theorem rowsT_flat {o : Ori} {x : Int} {i : Nat} : (rowsT o x (i + 1)).flatten = (rowsT o x i).flatten ++ rowU o x i := by rw [rowsT_succ]; simp
theorem hF_at {o : Ori} {m : Bool} {S : List Int} {x : Int} {i : Nat} (hs : stopB o m S x i = true) : ∀ {f a : Nat}, a ≤ i → i ≤ a + f → (∀ j, a ≤ j → j < i → stopB o m S x j = false) → hF o m S x f a = i
  | 0, a, h1, h2, _ => by unfold hF; omega
  | f + 1, a, h1, h2, h => by
    unfold hF
    by_cases e : a = i
    · subst e; rw [if_pos hs]
    · rw [if_neg (by rw [h a (Nat.le_refl _) (by omega)]; simp)]
      exact hF_at hs (by omega) (by omega) fun j hj hlt => h j (by omega) hlt
/-! ### 1. The row above -/
theorem posR_false {o : Ori} {l : List Int} (h : posR o l = false) {x : Int} (hx : x ∈ l) : ¬ 0 < ordF o x := fun hp => by
  have : posR o l = true := List.any_eq_true.2 ⟨x, hx, decide_eq_true hp⟩
  rw [h] at this; cases this
theorem ord0_comm {o : Ori} (v : Valid o) {x : Int} (hx : Sq o.1.length x) (h : ¬ 0 < ordF o x) : ap (comm o) x = x := ordF_zero v hx (by have := ordF_nonneg v hx; omega)
theorem mem_abvL {o : Ori} (_ : Valid o) {l : List Int} {z : Int} : z ∈ abvL o l ↔ ∃ y ∈ l, z = ap o.2 y := by
  unfold abvL
  constructor
  · intro h
    obtain ⟨i, hi, rfl⟩ := mem_nth h
    rw [tab_len] at hi
    exact ⟨nth l i, nth_mem hi, nth_tab hi⟩
  · rintro ⟨y, hy, rfl⟩
    obtain ⟨i, hi, rfl⟩ := mem_nth hy
    have := nth_mem (xs := tab l.length fun k => nth o.2 (nth l k).toNat) (i := i) (by rw [tab_len]; exact hi)
    rwa [nth_tab hi] at this
theorem perF_congr {p : List Int} {x y : Int} (h : ∀ m, it p m x = x ↔ it p m y = y) : ∀ f m, perF p x f m = perF p y f m
  | 0, _ => rfl
  | f + 1, m => by
    unfold perF
    by_cases e : it p m x = x
    · rw [if_pos e, if_pos ((h m).1 e)]
    · rw [if_neg e, if_neg (fun k => e ((h m).2 k)), perF_congr h f (m + 1)]
theorem up_it {o : Ori} (v : Valid o) {x : Int} (hx : Sq o.1.length x) (h : posR o (abvL o (orb o.1 x)) = false) : ∀ i, it o.1 i (ap o.2 x) = ap o.2 (it o.1 i x)
  | 0 => rfl
  | i + 1 => by
    have hy := v.pR.its hx i
    have hy1 := v.pR.its hx (i + 1)
    have hz := v.pU.aps hy1
    have hm : ap o.2 (it o.1 (i + 1) x) ∈ abvL o (orb o.1 x) := (mem_abvL v).2 ⟨_, (v.pR.mem_orb hx).2 ⟨i + 1, rfl⟩, rfl⟩
    have hc := ord0_comm v hz (posR_false h hm)
    rw [comm_ap hz] at hc
    have hl := v.pR.inv.aps hz
    have h1 := v.pU.inj (v.pR.aps (v.pU.inv.aps hl)) hy1 hc
    have h2 : ap (invL o.2) (ap (invL o.1) (ap o.2 (it o.1 (i + 1) x))) = it o.1 i x := v.pR.inj (v.pU.inv.aps hl) hy h1
    have h3 : ap (invL o.1) (ap o.2 (it o.1 (i + 1) x)) = ap o.2 (it o.1 i x) := by rw [← h2, v.pU.ap_inv hl]
    show ap o.1 (it o.1 i (ap o.2 x)) = _
    rw [up_it v hx h i, ← h3, v.pR.ap_inv hz]
theorem per_up {o : Ori} (v : Valid o) {x : Int} (hx : Sq o.1.length x) (h : ∀ i, it o.1 i (ap o.2 x) = ap o.2 (it o.1 i x)) : per o.1 (ap o.2 x) = per o.1 x :=
  perF_congr (fun m => by rw [h m]; exact ⟨fun e => v.pU.inj (v.pR.its hx m) hx e, fun e => by rw [e]⟩) _ _
theorem abv_orb {o : Ori} (v : Valid o) {x : Int} (hx : Sq o.1.length x) (h : ∀ i, it o.1 i (ap o.2 x) = ap o.2 (it o.1 i x)) : abvL o (orb o.1 x) = orb o.1 (ap o.2 x) := by
  unfold abvL
  rw [orb_len]
  show _ = tab (per o.1 (ap o.2 x)) _
  rw [per_up v hx h]
  refine tab_congr fun i hi => ?_
  rw [h i, nth_orb hi]; rfl
theorem abv_row {o : Ori} (v : Valid o) {x : Int} (hx : Sq o.1.length x) (h : posR o (abvL o (orb o.1 x)) = false) : abvL o (orb o.1 x) = orb o.1 (ap o.2 x) := abv_orb v hx (up_it v hx h)
theorem up_it' {o : Ori} (v : Valid o) {x : Int} (hx : Sq o.1.length x) (h : posR o (orb o.1 (ap o.2 x)) = false) : ∀ i, it o.1 i (ap o.2 x) = ap o.2 (it o.1 i x)
  | 0 => rfl
  | i + 1 => by
    have ih := up_it' v hx h i
    have hux := v.pU.aps hx
    have hz := v.pR.its hux (i + 1)
    have hy := v.pR.its hx i
    have hc := ord0_comm v hz (posR_false h ((v.pR.mem_orb hux).2 ⟨i + 1, rfl⟩))
    rw [comm_ap hz] at hc
    have h1 : ap (invL o.1) (it o.1 (i + 1) (ap o.2 x)) = it o.1 i (ap o.2 x) := v.pR.inv_ap (v.pR.its hux i)
    rw [h1, ih, v.pU.inv_ap hy] at hc
    exact hc.symm
theorem abv_pos {o : Ori} (v : Valid o) {x : Int} (hx : Sq o.1.length x) : posR o (abvL o (orb o.1 x)) = posR o (orb o.1 (ap o.2 x)) := by
  cases h : posR o (abvL o (orb o.1 x)) with
  | false => rw [← abv_row v hx h, h]
  | true =>
    cases h2 : posR o (orb o.1 (ap o.2 x)) with
    | true => rfl
    | false => rw [abv_orb v hx (up_it' v hx h2), h2] at h; cases h
theorem rowU_next {o : Ori} (v : Valid o) {x : Int} (hx : Sq o.1.length x) {i : Nat} (h : posR o (abvL o (rowU o x i)) = false) : abvL o (rowU o x i) = rowU o x (i + 1) := abv_row v (v.pU.its hx i) h
theorem rowU_pos {o : Ori} (v : Valid o) {x : Int} (hx : Sq o.1.length x) {i : Nat} : posR o (abvL o (rowU o x i)) = posR o (rowU o x (i + 1)) := abv_pos v (v.pU.its hx i)
theorem rowU_per {o : Ori} (v : Valid o) {x : Int} (hx : Sq o.1.length x) {i : Nat} (h : posR o (rowU o x (i + 1)) = false) : (rowU o x (i + 1)).length = (rowU o x i).length := by
  rw [← rowU_next v hx (by rw [rowU_pos v hx]; exact h)]; exact tab_len
/-! ### 2. Rows that are new -/
def ClR (o : Ori) (S : List Int) : Prop := ∀ y, Sq o.1.length y → y ∈ S → ap o.1 y ∈ S
theorem ClR.it {o : Ori} {S : List Int} (v : Valid o) (h : ClR o S) {y : Int} (hy : Sq o.1.length y) (hm : y ∈ S) : ∀ i, Fl.it o.1 i y ∈ S
  | 0 => hm
  | i + 1 => h _ (v.pR.its hy i) (ClR.it v h hy hm i)
theorem ClR.orb {o : Ori} {S : List Int} (v : Valid o) (h : ClR o S) {y z : Int} (hy : Sq o.1.length y) (hz : z ∈ Fl.orb o.1 y) : z ∈ S ↔ y ∈ S := by
  have hzs := v.pR.orb_rng hy hz
  constructor
  · intro hm
    obtain ⟨i, e⟩ := (v.pR.mem_orb hzs).1 (v.pR.orb_symm hy hz)
    rw [e]; exact h.it v hzs hm i
  · intro hm
    obtain ⟨i, rfl⟩ := (v.pR.mem_orb hy).1 hz
    exact h.it v hy hm i
theorem row_new {o : Ori} (v : Valid o) {S : List Int} (hS : Good o.1.length S) (hc : ClR o S) {y : Int} (hy : Sq o.1.length y) (hm : y ∉ S) : Good o.1.length (S ++ orb o.1 y) ∧ ClR o (S ++ orb o.1 y) := by
  refine ⟨⟨List.nodup_append.2 ⟨hS.nodup, v.pR.orb_nodup hy, fun a ha b hb e => ?_⟩, fun x hx => ?_⟩, fun x hx hx2 => ?_⟩
  · subst e; exact hm ((hc.orb v hy hb).1 ha)
  · rcases List.mem_append.1 hx with h | h
    · exact hS.rng x h
    · exact v.pR.orb_rng hy h
  · rcases List.mem_append.1 hx2 with h | h
    · exact List.mem_append.2 (.inl (hc x hx h))
    · exact List.mem_append.2 (.inr (v.pR.orb_ap hy h))
/-- What has been seen, and a row that is new. -/
structure GS (o : Ori) (S : List Int) : Prop where
  v : Valid o
  g : Good o.1.length S
  c : ClR o S
theorem GS.nil {o : Ori} (v : Valid o) : GS o [] := ⟨v, Good.nil, fun _ _ h => by cases h⟩
theorem GS.row {o : Ori} {S : List Int} (h : GS o S) {y : Int} (hy : Sq o.1.length y) (hm : y ∉ S) : GS o (S ++ orb o.1 y) := ⟨h.v, (row_new h.v h.g h.c hy hm).1, (row_new h.v h.g h.c hy hm).2⟩
theorem stop_mem {o : Ori} {m : Bool} {S : List Int} {x : Int} {i : Nat} (h : stopB o m S x i = false) : it o.2 i x ∉ S ++ (rowsT o x i).flatten ∧ (m || posR o (rowU o x i)) = false := by
  unfold stopB at h
  rw [Bool.or_eq_false_iff] at h
  exact ⟨of_decide_eq_false h.2, h.1⟩
theorem GS.rows {o : Ori} {m : Bool} {S : List Int} {x : Int} (h : GS o S) (hx : Sq o.1.length x) (hm : x ∉ S) : ∀ {i : Nat}, (∀ j, 1 ≤ j → j < i → stopB o m S x j = false) → GS o (S ++ (rowsT o x i).flatten)
  | 0, _ => by simpa [rowsT, tab] using h
  | i + 1, hs => by
    have ih := GS.rows h hx hm (i := i) fun j h1 h2 => hs j h1 (by omega)
    rw [rowsT_flat, ← List.append_assoc]
    refine ih.row (h.v.pU.its hx i) ?_
    rcases Nat.eq_zero_or_pos i with rfl | hi
    · simpa [rowsT, tab, it] using hm
    · exact (stop_mem (hs i hi (by omega))).1
theorem rowU_lenpos {o : Ori} (v : Valid o) {x : Int} (hx : Sq o.1.length x) {i : Nat} : 0 < (rowU o x i).length := by
  unfold rowU; rw [orb_len]; exact (v.pR.pers (v.pU.its hx i)).2.1
theorem rows_many {o : Ori} (v : Valid o) {x : Int} (hx : Sq o.1.length x) : ∀ {i : Nat}, i ≤ (rowsT o x i).flatten.length
  | 0 => Nat.zero_le _
  | i + 1 => by
    have := rows_many v hx (i := i)
    have := rowU_lenpos v hx (i := i)
    rw [rowsT_flat, List.length_append]; omega
theorem GS.few {o : Ori} {m : Bool} {S : List Int} {x : Int} (h : GS o S) (hx : Sq o.1.length x) (hm : x ∉ S) {i : Nat} (hs : ∀ j, 1 ≤ j → j < i → stopB o m S x j = false) : i ≤ o.1.length ∧ S.length + (rowsT o x i).flatten.length ≤ o.1.length := by
  have h1 := (h.rows hx hm hs).g.len
  have h2 := rows_many h.v hx (i := i)
  rw [List.length_append] at h1
  omega
/-- Where it stops. -/
theorem GS.hgt {o : Ori} {m : Bool} {S : List Int} {x : Int} (h : GS o S) (hx : Sq o.1.length x) (hm : x ∉ S) {i : Nat} (h1 : 1 ≤ i) (hs : ∀ j, 1 ≤ j → j < i → stopB o m S x j = false) (hi : stopB o m S x i = true) : Fl.hgt o m S x = i :=
  hF_at hi h1 (by have := (h.few hx hm hs).1; omega) hs
theorem GS.stops {o : Ori} {m : Bool} {S : List Int} {x : Int} (h : GS o S) (hx : Sq o.1.length x) (hm : x ∉ S) : 1 ≤ Fl.hgt o m S x ∧ (∀ j, 1 ≤ j → j < Fl.hgt o m S x → stopB o m S x j = false) ∧ stopB o m S x (Fl.hgt o m S x) = true := by
  have key : ∀ f i, 1 ≤ i → i + f = o.1.length + 1 → (∀ j, 1 ≤ j → j < i → stopB o m S x j = false) → ∃ q, 1 ≤ q ∧ (∀ j, 1 ≤ j → j < q → stopB o m S x j = false) ∧ stopB o m S x q = true := by
    intro f
    induction f with
    | zero => intro i h1 h2 hs; have := (h.few hx hm hs).1; omega
    | succ f ih =>
      intro i h1 h2 hs
      cases hb : stopB o m S x i with
      | true => exact ⟨i, h1, hs, hb⟩
      | false =>
        refine ih (i + 1) (by omega) (by omega) fun j q1 q2 => ?_
        by_cases e : j = i
        · subst e; exact hb
        · exact hs j q1 (by omega)
  obtain ⟨q, h1, h2, h3⟩ := key o.1.length 1 (Nat.le_refl _) (by omega) fun j a b => by omega
  rw [h.hgt hx hm h1 h2 h3]; exact ⟨h1, h2, h3⟩
theorem GS.le {o : Ori} {m : Bool} {S : List Int} {x : Int} (h : GS o S) (hx : Sq o.1.length x) (hm : x ∉ S) : Fl.hgt o m S x ≤ o.1.length := (h.few hx hm (h.stops hx hm (m := m)).2.1).1
/-! ### 3. The program's bands -/
abbrev CySt := List Int × List BandT
def bandG (o : Ori) (m : Bool) (S : List Int) (x : Int) : BandT := ((per o.1 x : Int), ((hgt o m S x : Nat) : Int), rowsT o x (hgt o m S x))
def grw (o : Ori) (m : Bool) (st : CySt) (x : Int) : CySt := (st.1 ++ (rowsT o x (hgt o m st.1 x)).flatten, st.2 ++ [bandG o m st.1 x])
def cyR (o : Ori) : List (List Int) := cycs o.1 o.1.length
def ph1 (o : Ori) (m : Bool) : Nat → CySt
  | 0 => ([], [])
  | k + 1 => if (m || posR o (nth (cyR o) k)) = true then grw o m (ph1 o m k) (nth (nth (cyR o) k) 0) else ph1 o m k
def ph2 (o : Ori) (m : Bool) : Nat → CySt
  | 0 => ph1 o m (cyR o).length
  | k + 1 => if nth (nth (cyR o) k) 0 ∈ (ph2 o m k).1 then ph2 o m k else grw o m (ph2 o m k) (nth (nth (cyR o) k) 0)
theorem cyR_row {o : Ori} (v : Valid o) {k : Nat} (hk : k < (cyR o).length) : Sq o.1.length (nth (nth (cyR o) k) 0) ∧ nth (cyR o) k = orb o.1 (nth (nth (cyR o) k) 0) := by
  obtain ⟨j, h1, _, h3⟩ := v.pR.cycs_mem (Nat.le_refl _) (nth_mem hk)
  have hj : Sq o.1.length j := Sq.nat h1
  have h0 : nth (orb o.1 j) 0 = j := nth_orb (v.pR.pers hj).2.1
  have h3' : nth (cyR o) k = orb o.1 j := h3
  rw [h3', h0]; exact ⟨hj, rfl⟩
theorem cyR_uniq {o : Ori} (v : Valid o) {i k : Nat} (hi : i < (cyR o).length) (hk : k < (cyR o).length) {x : Int} (h1 : x ∈ nth (cyR o) i) (h2 : x ∈ nth (cyR o) k) : i = k :=
  row_uniq (by have := (cycs_good v.rR (Nat.le_refl _)).nodup; exact this) hi hk h1 h2
theorem cyR_has {o : Ori} (v : Valid o) {x : Int} (hx : Sq o.1.length x) : ∃ k, k < (cyR o).length ∧ x ∈ nth (cyR o) k := by
  have hm : x ∈ (cyR o).flatten := ((v.pR.cycsP (Nat.le_refl _)).1 x).2 ⟨x.toNat, by have := hx.1; have := hx.2; omega, by rw [Int.toNat_of_nonneg hx.1]; exact v.pR.orb_self hx⟩
  obtain ⟨l, h1, h2⟩ := List.mem_flatten.1 hm
  obtain ⟨k, hk, rfl⟩ := mem_nth' h1
  exact ⟨k, hk, h2⟩
end Go.Fl

/- Contracts: the least square of a band. -/
namespace Go.Fl
open Go Go.Proofs

def eBand : Enc BandT := eC (fun v : BandT => (v.1, v.2.1, v.2.2, ())) (eP eI (eP eI (eP (eL (eL eI)) eU)))
instance {v : BandT} : CellsK (kRd eBand v) [kI (v.1), kI (v.2.1), kRd (eL (eL eI)) (v.2.2)] := inferInstanceAs (CellsK (kRd (eC (fun v : BandT => (v.1, v.2.1, v.2.2, ())) (eP eI (eP eI (eP (eL (eL eI)) eU)))) v) _)
instance {v : BandT} {tl : List Know} : EncCells eBand v tl (kI (v.1) :: kI (v.2.1) :: kRd (eL (eL eI)) (v.2.2) :: tl) := inferInstanceAs (EncCells (eC (fun v : BandT => (v.1, v.2.1, v.2.2, ())) (eP eI (eP eI (eP (eL (eL eI)) eU)))) v tl _)
instance {v : BandT} : Norm eBand v (kRd eBand v) := ⟨fun h => h⟩
instance {v : BandT} : FieldP eBand v 0 eI (v.1) 0 := inferInstanceAs (FieldP (eC (fun v : BandT => (v.1, v.2.1, v.2.2, ())) (eP eI (eP eI (eP (eL (eL eI)) eU)))) v 0 _ _ _)
instance {v : BandT} : FieldP eBand v 1 eI (v.2.1) 1 := inferInstanceAs (FieldP (eC (fun v : BandT => (v.1, v.2.1, v.2.2, ())) (eP eI (eP eI (eP (eL (eL eI)) eU)))) v 1 _ _ _)
instance {v : BandT} : FieldP eBand v 2 (eL (eL eI)) (v.2.2) 2 := inferInstanceAs (FieldP (eC (fun v : BandT => (v.1, v.2.1, v.2.2, ())) (eP eI (eP eI (eP (eL (eL eI)) eU)))) v 2 _ _ _)
instance {ks r : List Know} {a b : Int} {l : List (List Int)} [h : RdOf ks (eP eI (eP eI (eP (eL (eL eI)) eU))) (a, b, l, ()) r] : RdOf ks eBand ((a, b, l)) r := ⟨fun h' => h.imp h'⟩
set_option maxRecDepth 100000 in
theorem ct_cyl3 (b : BandT) (h0 : 0 < b.2.2.length) (hl : ∀ l ∈ b.2.2, 0 < l.length) (hn : b.2.2.length ≤ 1000000) : Ct Try.prog 51 [kRd eBand b] (kI (lsB b.2.2)) := by
  have h00 := hl _ (nth_mem h0)
  refine Ct.mk Try.func51 rfl Try.ntmps51 rfl (fun w J => ?_)
  refine Tr.seq ?_
  refine Tr.rg ?_
  refine TrL.new (ok_box 1 rfl (fun _ => rfl) rfl) rfl rfl rfl rfl ?_
  refine TrL.op (ok_assign rfl (fun _ => rfl)) rfl rfl ?_
  refine TrL.fin ?_
  refine End.nxt ?_
  refine Tr.seq ?_
  refine Tr.rg ?_
  refine TrL.op (ok_fldO rfl (fun _ => rfl)) rfl rfl ?_
  refine TrL.op (ok_ldB rfl (fun _ => rfl) rfl) rfl rfl ?_
  first | refine TrL.op (ok_idxN rfl (fun _ => rfl) rfl (fun _ => rfl) rfl (fun _ => by omega)) rfl rfl ?_ | refine TrL.op (ok_idxP rfl (fun _ => rfl) rfl (fun _ => rfl) rfl (fun _ => by omega)) rfl rfl ?_
  refine TrL.op (ok_ldP rfl (fun _ => rfl) rfl) rfl rfl ?_
  first | refine TrL.op (ok_idxN rfl (fun _ => rfl) rfl (fun _ => rfl) rfl (fun _ => by omega)) rfl rfl ?_ | refine TrL.op (ok_idxP rfl (fun _ => rfl) rfl (fun _ => rfl) rfl (fun _ => by omega)) rfl rfl ?_
  refine TrL.op (ok_ldP rfl (fun _ => rfl) rfl) rfl rfl ?_
  refine TrL.op (ok_assign rfl (fun _ => rfl)) rfl rfl ?_
  refine TrL.fin ?_
  refine End.nxt ?_
  refine Tr.seq ?_
  refine Tr.seq ?_
  refine Tr.rg ?_
  refine TrL.op (ok_fldO rfl (fun _ => rfl)) rfl rfl ?_
  refine TrL.op (ok_ldB rfl (fun _ => rfl) rfl) rfl rfl ?_
  refine TrL.op (ok_lenJ rfl (fun _ => rfl)) rfl rfl ?_
  refine TrL.op (ok_move rfl (fun _ => rfl)) rfl rfl ?_
  refine TrL.fin ?_
  refine End.nxt ?_
  refine Tr.for1 (σ := Nat) [⟨13, true, _, _⟩, ⟨14, true, _, _⟩] [] (fun k => [⟨15, true, [], kI (k : Int)⟩, ⟨3, true, [], kI (lsK b.2.2 k)⟩]) (fun k => []) (fun k => k ≤ b.2.2.length) (fun k => k = b.2.2.length) (fun k => b.2.2.length - k) (0) (Nat.zero_le _) (Ent.mk (.i rfl (by first | rfl | omega | (simp; done) | (simp; omega) | assumption) <| .i rfl rfl <| .k rfl rfl <| .k rfl rfl <| .nil) (.nil) rfl) ?_ ?_
  · intro k hR0
    refine Tr.norm (S' := [⟨15, true, _, _⟩, ⟨3, true, _, _⟩, ⟨13, true, _, _⟩, ⟨14, true, _, _⟩]) (M' := []) rfl rfl ?_
    have hlk := fun (h : k < b.2.2.length) => hl _ (nth_mem h)
    refine Tr.seq ?_
    refine Tr.rg ?_
    refine TrL.op (ok_lss rfl (fun _ => rfl) rfl (fun _ => rfl)) rfl rfl ?_
    refine TrL.fin ?_
    refine End.nxt ?_
    refine Tr.seq ?_
    refine Tr.cnd rfl ?_ ?_
    · intro h3
      replace h3 := of_decide_eq_true h3
      refine Tr.skip ?_
      refine End.nxt ?_
      refine Tr.seq ?_
      refine Tr.blk ?_
      refine Tr.seq ?_
      refine Tr.rg ?_
      first | refine TrL.op (ok_idxN rfl (fun _ => rfl) rfl (fun _ => rfl) rfl (fun _ => by omega)) rfl rfl ?_ | refine TrL.op (ok_idxP rfl (fun _ => rfl) rfl (fun _ => rfl) rfl (fun _ => by omega)) rfl rfl ?_
      refine TrL.op (ok_ldP rfl (fun _ => rfl) rfl) rfl rfl ?_
      refine TrL.op (ok_assign rfl (fun _ => rfl)) rfl rfl ?_
      refine TrL.fin ?_
      refine End.nxt ?_
      refine Tr.rg ?_
      refine TrL.op (ok_move rfl (fun _ => rfl)) rfl rfl ?_
      refine TrL.op (ok_move rfl (fun _ => rfl)) rfl rfl ?_
      refine TrL.op (ok_call (fun hp => ct_slMin _ (hlk (by omega))) (.a rfl (fun _ => rfl) <| .nil)) rfl rfl ?_
      refine TrL.op (ok_min rfl (fun _ => rfl) rfl (fun _ => rfl)) rfl rfl ?_
      refine TrL.op (ok_assign rfl (fun _ => rfl)) rfl rfl ?_
      refine TrL.fin ?_
      refine End.blk ?_
      refine End.nxt ?_
      refine Tr.rg ?_
      refine TrL.op (ok_add rfl (fun _ => rfl) rfl (fun _ => rfl) (fun _ => by omega)) rfl rfl ?_
      refine TrL.op (ok_move rfl (fun _ => rfl)) rfl rfl ?_
      refine TrL.fin ?_
      exact End.lp (k + 1) (by first | rfl | omega | (simp; done) | (simp; omega) | assumption) (by omega) (Ent.mk (.i rfl (by first | rfl | omega | (simp; done) | (simp; omega) | assumption) <| .i rfl rfl <| .k rfl rfl <| .k rfl rfl <| .nil) (.nil) rfl)
    · intro h3
      replace h3 := Int.not_lt.1 (of_decide_eq_false h3)
      refine Tr.exit ?_
      refine Exs.thn ?_
      refine Exs.thn ?_
      refine Exs.here ?_
      exact End.cut (k) (by omega) (Ent.mk (.i rfl (by first | rfl | omega | (simp; done) | (simp; omega) | assumption) <| .i rfl (by first | rfl | omega | (simp; done) | (simp; omega) | assumption) <| .k rfl rfl <| .k rfl rfl <| .nil) (.nil) rfl)
  · rintro _ rfl
    refine End.norm (S' := [⟨15, true, _, _⟩, ⟨3, true, _, _⟩, ⟨13, true, _, _⟩, ⟨14, true, _, _⟩]) (M' := []) rfl rfl ?_
    refine End.nxt ?_
    refine Tr.seq ?_
    refine Tr.rg ?_
    refine TrL.op (ok_move rfl (fun _ => rfl)) rfl rfl ?_
    refine TrL.op (ok_assign rfl (fun _ => rfl)) rfl rfl ?_
    refine TrL.fin ?_
    refine End.nxt ?_
    refine Tr.ret ?_
    exact Rts.res1 (fn := Try.f51) rfl (.i rfl rfl <| .nil)

set_option maxRecDepth 100000 in
theorem ct_cyl4 (a b : BandT) (ha : (0 < a.2.2.length ∧ a.2.2.length ≤ 1000000) ∧ ∀ l ∈ a.2.2, 0 < l.length ∧ ∀ x ∈ l, 0 ≤ x ∧ x < 1000000) (hb : (0 < b.2.2.length ∧ b.2.2.length ≤ 1000000) ∧ ∀ l ∈ b.2.2, 0 < l.length ∧ ∀ x ∈ l, 0 ≤ x ∧ x < 1000000) : Ct Try.prog 54 [kRd eBand a, kRd eBand b, kPtr (eFn (kDet (.func (.func 51) #[] #[]))) ()] (kI (lsB a.2.2 - lsB b.2.2)) := by
  have sma : 0 ≤ lsB a.2.2 ∧ lsB a.2.2 < 1000000 := by obtain ⟨l, h1, h2⟩ := lsK_mem (fun l h => (ha.2 l h).1) ha.1.1 (Nat.le_refl _); exact (ha.2 l h1).2 _ h2
  have smb : 0 ≤ lsB b.2.2 ∧ lsB b.2.2 < 1000000 := by obtain ⟨l, h1, h2⟩ := lsK_mem (fun l h => (hb.2 l h).1) hb.1.1 (Nat.le_refl _); exact (hb.2 l h1).2 _ h2
  refine Ct.mk Try.func54 rfl Try.ntmps54 rfl (fun w J => ?_)
  refine Tr.seq ?_
  refine Tr.rg ?_
  refine TrL.new (ok_box 3 rfl (fun _ => rfl) rfl) rfl rfl rfl rfl ?_
  refine TrL.new (ok_box 4 rfl (fun _ => rfl) rfl) rfl rfl rfl rfl ?_
  refine TrL.op (ok_assign rfl (fun _ => rfl)) rfl rfl ?_
  refine TrL.fin ?_
  refine End.nxt ?_
  refine Tr.seq ?_
  refine Tr.draw 5 mixed (by kernel_rfl) ?_
  refine RunD.op (ok_ldP rfl (fun _ => rfl) rfl) rfl rfl ?_
  refine RunD.op (ok_ldBS rfl (fun _ => rfl)) rfl rfl ?_
  refine RunD.op (ok_callV rfl (fun _ => rfl) (fun hp => ct_cyl3 a ha.1.1 (fun l h => (ha.2 l h).1) ha.1.2) (.se rfl (fun _ => rfl) rfl rfl <| .nil)) rfl rfl ?_
  refine RunD.op (ok_ldP rfl (fun _ => rfl) rfl) rfl rfl ?_
  refine RunD.op (ok_ldBS rfl (fun _ => rfl)) rfl rfl ?_
  refine RunD.z ?_
  refine TrL.op (ok_callV rfl (fun _ => rfl) (fun hp => ct_cyl3 b hb.1.1 (fun l h => (hb.2 l h).1) hb.1.2) (.se rfl (fun _ => rfl) rfl rfl <| .nil)) rfl rfl ?_
  refine TrL.op (ok_sub rfl (fun _ => rfl) rfl (fun _ => rfl) (fun _ => by omega)) rfl rfl ?_
  refine TrL.op (ok_assign rfl (fun _ => rfl)) rfl rfl ?_
  refine TrL.fin ?_
  refine End.nxt ?_
  refine Tr.ret ?_
  exact Rts.res1 (fn := Try.f54) rfl (.i rfl (by first | rfl | omega | (simp; done) | (simp; omega) | assumption) <| .nil)

end Go.Fl

/- The end of a call that is gone through in place, with what the caller wants to know. No program in sight. -/
namespace Go.Fl
open Go Go.RowKit
section
variable {P : Program} {c : Ctx} {S : Slots} {M M' : Conts} {fn : Func} {keep : List Nat} {bks : Nat → Bk} {n : Nat}
theorem End.inlE (hr : fn.results = #[]) (he : Ent c S M (tagSlots n bks keep) M') (hk : KeptT (tagSlots n bks keep) n bks keep) : End c S M (bodyPost P fn (RetI c keep bks M' (kDet (.tuple #[])))) := by
  intro a g w hs
  obtain ⟨g', hs'⟩ := he a g w hs
  exact End.inl0 hr hk a g' w hs'
variable {p : Bool} {d : Option Tmp} {ty : TypeId} {pos : String} {af : Array Edge} {gd : Option (Nat × Bool)} {x : Operand} {b : Bool}
/-- A closure with immutable captured values is called by contract. -/
theorem ok_callK {f : FuncId} [hf : TyFn P f] {ks cks : List Know} {res : Know} {args : List Operand} {tys : Array TypeId} (hx : opK S x = some (b, kClo f cks)) (hb : p = true → b = true) [hj : AllJ cks] (hct : p = true → Ct P f (ks ++ cks) res) (hargs : ArgsOk S p args ks) [hk : KDep res []] :
    OpOk P c S M ⟨d, .call { callee := .value x, args := args.toArray, argTypes := tys }, ty, pos, af, gd⟩ p res none := by
  intro hp q g w hok hc ho _
  obtain ⟨cvs, hfv, hcs⟩ := ho x (by simp [Op.operands, Call.operands]) b _ hx (hb hp)
  have hvs := hargs.eval (g := g) (ρ := q.eval) hp (fun y hy b k hk hb => ho y (by simp [Op.operands, Call.operands, hy]) b k hk hb)
  have h1 : allK ⟨g.J, noM⟩ cks cvs := allK_sameJ (g := g) (g' := ⟨g.J, noM⟩) (JV.le_refl _) hj.all hcs
  have hr := hct hp w g.J hok.im _ (allK_app hvs h1)
  unfold Oper.wp
  simp only [execOp, resolve, hfv, Deferred.ofValue, Sem.run_bind, Sem.run_pure, Result.andThen_ok, invoke, List.map_toArray, List.append_toArray]
  rw [hf.run]
  simp only [Oper.upon]
  refine hr.mono fun e w' he => ?_
  obtain ⟨r, J', rfl, hbel, hJ, hold, him, hres⟩ := he
  exact ⟨r, _, rfl, Did.call hok hbel hJ hold him hres⟩
end
instance {f : Fn} {a b : Array Value} {r : List Know} : RdOf (kDet (.func f a b) :: r) (eFn (kDet (.func f a b))) () r := .fn
instance {f : FuncId} {ks : List Know} {r : List Know} [KDep (kClo f ks) []] : RdOf (kClo f ks :: r) (eFn (kClo f ks)) () r := .fn
end Go.Fl

/- slices.SortFunc at structs as a call that changes one block of the caller's own; the comparison is a closure with immutable captured values. No program in sight. -/
namespace Go.Fl
open Go Go.RowKit Go.Proofs Go.Shelf Go.Sort
theorem grow_of_below {w w' : World} (h : Fl.Below w.heap.size w w') : ∃ q os, w' = grow (w.drewN q) os := by
  refine ⟨w'.drawn - w.drawn, w'.heap.extract w.heap.size w'.heap.size, ?_⟩
  obtain ⟨h1, h2, h3, h4, h5, h6⟩ := h
  have hh : w'.heap = w.heap ++ w'.heap.extract w.heap.size w'.heap.size := by
    refine Array.ext (by simp; omega) fun i hi hi2 => ?_
    rw [Array.getElem_append]
    split
    · rename_i hlt
      have := h5 i hlt
      rw [Array.getElem?_eq_getElem hi, Array.getElem?_eq_getElem hlt] at this
      exact Option.some.inj this
    · rw [Array.getElem_extract]
      congr 1; omega
  have hd : w'.drawn = w.drawn + (w'.drawn - w.drawn) := by omega
  calc w' = ⟨w'.heap, w'.tape, w'.drawn, w'.os, w'.output⟩ := rfl
    _ = ⟨w.heap ++ w'.heap.extract w.heap.size w'.heap.size, w.tape, w.drawn + (w'.drawn - w.drawn), w.os, w.output⟩ := by rw [← hh, ← hd, h1, h2, h3]
    _ = _ := rfl
theorem swo_sub {α : Type} (f : α → Int) : SWO (ltOf fun a b : α => f a - f b) := ⟨fun x => by simp [ltOf], fun x y z h1 h2 => by simp only [ltOf, decide_eq_true_eq] at *; omega, fun x y z h1 h2 => by simp only [ltOf, decide_eq_false_iff_not] at *; omega⟩
theorem zipped {α : Type} {e : Enc α} {J : JV} {φ : α → Prop} {xs : List α} {cs : Array Value} (hφ : ∀ x ∈ xs, φ x)
    (h5 : ∀ (i : Nat) x, xs[i]? = some x → ∃ ds, e.rd J ds x ∧ ∀ (j : Nat) v, ds[j]? = some v → cs[i * e.n + j]? = some v) :
    ∀ k, k ≤ xs.length → ∃ d : List {p : List Value × α // e.rd J p.1 p.2 ∧ φ p.2}, d.length = k ∧ ∀ (i : Nat) p, d[i]? = some p → xs[i]? = some p.1.2 ∧ ∀ (j : Nat) v, p.1.1[j]? = some v → cs[i * e.n + j]? = some v
  | 0, _ => ⟨[], rfl, fun i p h => by simp at h⟩
  | k + 1, hk => by
    obtain ⟨d, h1, h2⟩ := zipped hφ h5 k (by omega)
    have hx : xs[k]? = some xs[k] := List.getElem?_eq_getElem (by omega)
    obtain ⟨ds, q1, q2⟩ := h5 k _ hx
    refine ⟨d ++ [⟨(ds, xs[k]), q1, hφ _ (List.getElem_mem _)⟩], by simp [h1], fun i p hp => ?_⟩
    by_cases hi : i < d.length
    · rw [List.getElem?_append_left hi] at hp
      exact h2 i p hp
    · rw [List.getElem?_append_right (by omega)] at hp
      have : i - d.length = 0 := Classical.byContradiction fun h => by
        rw [show i - d.length = (i - d.length - 1) + 1 by omega] at hp; simp at hp
      rw [this] at hp
      simp only [List.getElem?_cons_zero, Option.some.injEq] at hp
      subst hp
      obtain rfl : i = k := by omega
      exact ⟨hx, q2⟩
theorem flat_at {β : Type} [Inhabited β] {enc : β → List Value} {k : Nat} (_ : ∀ x, (enc x).length = k) {d : Array β} {i j : Nat} (hi : i < d.size) (hj : j < k) : (flatK enc k d)[i * k + j]! = (enc d[i]!)[j]! ∧ i * k + j < d.size * k := by
  have lt : i * k + j < d.size * k := by
    have := Nat.mul_le_mul_right k (show i + 1 ≤ d.size from hi); rw [Nat.add_mul, Nat.one_mul] at this; omega
  have e1 : (i * k + j) / k = i := by rw [Nat.mul_comm, Nat.mul_add_div (by omega), Nat.div_eq_of_lt hj]; omega
  have e2 : (i * k + j) % k = j := by rw [Nat.mul_comm, Nat.mul_add_mod, Nat.mod_eq_of_lt hj]
  rw [get_flatK _ _ _ _ lt, e1, e2]
  exact ⟨rfl, lt⟩
/-- slices.SortFunc at structs; the comparison keeps a contract. -/
theorem ctb_sortK {P : Program} {ρ : Ren} (L : SlLaysF0.n6 P ρ) {α : Type} (e : Enc α) (hagg : e.agg = true) (aE : ∀ w, (isAgg (ρ.t 24)).run P w = .ok true w) (zE : ∀ w, (Go.sizeOf (ρ.t 24)).run P w = .ok e.n w)
    (φ : α → Prop) (cf : α → α → Int) (hO : SWO (ltOf cf)) {g : FuncId} [hg : TyFn P g] {cks : List Know} [AllJ cks] (hct : ∀ a b, φ a → φ b → Ct P g ([kRd e a, kRd e b] ++ cks) (kI (cf a b)))
    {z : Bool} {ty : TypeId} {xs ys : List α} {len : Nat} (hlen : 0 < len) (hm : len ≤ 1000000) (hφ : ∀ x ∈ xs, φ x) (hys : ∀ l : List α, l.Perm xs → l.Pairwise (fun a b => ltOf cf b a = false) → l = ys) :
    CtB P (ρ.f 6) (kOsl 0 len) [kClo g cks] (cArr z ty e xs len) (cArr z ty e ys len) (kDet (.tuple #[])) := by
  intro w J b cap him hn hb hct0 v vs hv hvs
  obtain ⟨h0, hz, cs, h1, h2, h3, h4, h5⟩ := hct0
  match vs, hvs with
  | [], hvs => exact hvs.elim
  | _ :: _ :: _, hvs => exact hvs.2.elim
  | [u], hvs =>
    obtain ⟨cvs, rfl, hc⟩ := hvs.1
    rcases hv with ⟨hmm, _⟩ | ⟨b', cap', hmm, rfl⟩
    · simp [g1] at hmm
    · simp only [g1, if_true, Option.some.injEq, Bk.blk.injEq] at hmm
      obtain ⟨rfl, rfl⟩ := hmm
      obtain ⟨d, hd1, hd2⟩ := zipped (e := e) (J := J) hφ h5 xs.length (Nat.le_refl _)
      have hd0 : d ≠ [] := fun hh => by rw [hh] at hd1; simp at hd1; omega
      haveI : Inhabited {p : List Value × α // e.rd J p.1 p.2 ∧ φ p.2} := ⟨d.head hd0⟩
      have hk : ∀ x : {p : List Value × α // e.rd J p.1 p.2 ∧ φ p.2}, x.1.1.length = e.n := fun x => e.len x.2.1
      have hsz : d.toArray.size = len := by simp [hd1, h0]
      have hx1 : ∀ x : {p : List Value × α // e.rd J p.1 p.2 ∧ φ p.2}, ∀ v ∈ x.1.1, v.oneCell' = true := fun x => e.all1 x.2.1
      have hmap : d.map (fun p => p.1.2) = xs := by
        refine List.ext_getElem? fun i => ?_
        rw [List.getElem?_map]
        cases hi : d[i]? with
        | none =>
          have := List.getElem?_eq_none_iff.1 hi
          exact (List.getElem?_eq_none_iff.2 (by omega)).symm
        | some p => exact (hd2 i p hi).1.symm
      have hH : HoldsK (fun p : {p : List Value × α // e.rd J p.1 p.2 ∧ φ p.2} => p.1.1) e.n w b 0 d.toArray := by
        intro j hjlt
        rw [size_flatK] at hjlt
        have hn0 : 0 < e.n := Nat.pos_of_ne_zero fun hh => by rw [hh] at hjlt; omega
        have hi : j / e.n < d.toArray.size := Nat.div_lt_of_lt_mul (by rw [Nat.mul_comm]; exact hjlt)
        have hr := Nat.mod_lt j hn0
        obtain ⟨q1, q2⟩ := flat_at hk hi hr
        have hdm : j / e.n * e.n + j % e.n = j := by rw [Nat.mul_comm]; exact Nat.div_add_mod j e.n
        rw [hdm] at q1
        have hil : j / e.n < d.length := by simpa using hi
        have hg' : d[j / e.n]? = some d.toArray[j / e.n]! := by rw [List.getElem?_eq_getElem hil]; simp [hil]
        have hv' := (hd2 _ _ hg').2 (j % e.n) _ (List.getElem?_eq_getElem (show j % e.n < (d.toArray[j / e.n]!).1.1.length by rw [hk]; exact hr))
        rw [hdm] at hv'
        refine ⟨?_, by simp [World.frozen?, h1]⟩
        simp only [World.cell?, h1, Nat.zero_add, q1, id]
        simp only [Option.isSome_none, Bool.false_eq_true, if_false]
        rw [hv', getElem!_pos (d.toArray[j / e.n]!).1.1 (j % e.n) (show j % e.n < (d.toArray[j / e.n]!).1.1.length by rw [hk]; exact hr)]
      have hO' : SWO (ltOf fun x y : {p : List Value × α // e.rd J p.1 p.2 ∧ φ p.2} => cf x.1.2 y.1.2) := ⟨fun x => hO.irrefl x.1.2, fun x y z => hO.trans x.1.2 y.1.2 z.1.2, fun x y z => hO.ntrans x.1.2 y.1.2 z.1.2⟩
      have hcl : CmpLays P g cvs.toArray (fun p : {p : List Value × α // e.rd J p.1 p.2 ∧ φ p.2} => p.1.1) e.n (fun x y => cf x.1.2 y.1.2) b 0 d.toArray.size w := fun m os dk _ x y => by
        have him' : Im J (sortWorldK (fun p : {p : List Value × α // e.rd J p.1 p.2 ∧ φ p.2} => p.1.1) e.n w b 0 m dk os) := im_but (cap := cap) him hn (but_sorted (enc := id))
        have hcall := hct x.1.2 y.1.2 x.2.2 y.2.2 _ J him' ([.agg x.1.1.toArray, .agg y.1.1.toArray] ++ cvs) (allK_append (g := ⟨J, noM⟩) ⟨⟨_, x.2.1, by rw [hagg]; rfl⟩, ⟨_, y.2.1, by rw [hagg]; rfl⟩, trivial⟩ hc)
        rw [← List.append_toArray] at hcall
        refine hcall.mono fun e' w' he => ?_
        obtain ⟨r, J', rfl, hbel, _, _, _, hres⟩ := he
        have hres : r = .int .i64 (cf x.1.2 y.1.2) := hres
        exact ⟨by rw [hres], grow_of_below hbel⟩
      have hso := AnyQ.slices_SortFunc L e.n aE zE (fun p : {p : List Value × α // e.rd J p.1 p.2 ∧ φ p.2} => p.1.1) hk hx1 (fun x y => cf x.1.2 y.1.2) hO' g cvs.toArray b 0 cap d.toArray w (fun args w => hg.run args w) hcl hH hb (by omega)
      rw [hsz] at hso
      refine hso.mono fun e' w' ⟨he, d', n, os, hp, hs, hw⟩ => ?_
      subst hw
      obtain ⟨hp1, _, hp3⟩ := hp
      have hd' : d'.size = len := by rw [hp1]; exact hsz
      have hperm : d'.toList.Perm d := by
        have e1 : d'.extract 0 len = d' := by rw [← hd']; simp
        have e2 : d.toArray.extract 0 len = d.toArray := by rw [← hsz]; simp
        rw [e1, e2] at hp3; simpa using hp3
      have hys' : d'.toList.map (fun p => p.1.2) = ys := hys _ (by rw [← hmap]; exact hperm.map _) (by
        rw [List.pairwise_map, List.pairwise_iff_getElem]
        intro i j hi hj hij
        have hi' : i < d'.size := by simpa using hi
        have hj' : j < d'.size := by simpa using hj
        have := hs i j (Nat.zero_le _) hij (by omega)
        rw [getElem!_pos d' i hi', getElem!_pos d' j hj'] at this
        simpa [ltOf] using this)
      have hyl : ys.length = len := by rw [← hys']; simp [hd']
      refine ⟨_, J, he, but_sorted (enc := id), JV.le_refl _, fun _ _ _ => rfl, im_but (cap := cap) him hn (but_sorted (enc := id)), rfl, ?_⟩
      refine ⟨hyl, hz, _, heap_sorted (enc := id) _ h1, by simp [putCells, h2], h3, h4, fun i x hx => ?_⟩
      rw [← hys', List.getElem?_map] at hx
      have hil : i < d'.size := Classical.byContradiction fun hh => by
        rw [List.getElem?_eq_none_iff.2 (by simpa using hh)] at hx; simp at hx
      have hp' : d'.toList[i]? = some d'[i]! := by simp [hil]
      rw [hp'] at hx
      simp only [Option.map_some, Option.some.injEq] at hx
      subst hx
      refine ⟨_, d'[i]!.2.1, fun j v hv => ?_⟩
      have hjl := (List.getElem?_eq_some_iff.1 hv).1
      rw [hk] at hjl
      obtain ⟨q1, q2⟩ := flat_at hk hil hjl
      have hsz2 : i * e.n + j < cs.size := by
        rw [h2]
        have : (i + 1) * e.n ≤ cap * e.n := Nat.mul_le_mul_right _ (by omega)
        rw [Nat.add_mul, Nat.one_mul] at this; omega
      simp only [putCells, Array.getElem?_mapIdx, Array.getElem?_eq_getElem hsz2, Option.map_some, Nat.zero_le, true_and, Nat.zero_add, size_flatK, q2, if_true, Nat.sub_zero, q1, id]
      rw [getElem!_pos (d'[i]!).1.1 j (show j < (d'[i]!).1.1.length by rw [hk]; exact hjl)]
      exact hv ▸ (List.getElem?_eq_getElem _).symm
end Go.Fl

/- Cylinders: what holds of the program's bands; sorted by their least squares; their area. Plain Lean, no program in sight. -/
namespace Go.Fl
def flatB (l : List BandT) : List Int := (l.map fun b => b.2.2.flatten).flatten
theorem flatB_app {a b : List BandT} : flatB (a ++ b) = flatB a ++ flatB b := by simp [flatB]
theorem flatB_one {b : BandT} : flatB [b] = b.2.2.flatten := by simp [flatB]
structure BdOk (o : Ori) (m : Bool) (b : BandT) : Prop where
  ex : ∃ x h, Sq o.1.length x ∧ 1 ≤ h ∧ h ≤ o.1.length ∧ b = ((per o.1 x : Int), ((h : Nat) : Int), rowsT o x h) ∧ (rowsT o x h).flatten.length = h * per o.1 x
structure CyOk (o : Ori) (m : Bool) (st : CySt) : Prop where
  gs : GS o st.1
  flat : st.1 = flatB st.2
  ok : ∀ b ∈ st.2, BdOk o m b
theorem CyOk.nil {o : Ori} {m : Bool} (v : Valid o) : CyOk o m ([], []) := ⟨GS.nil v, rfl, fun _ h => by cases h⟩
theorem rows_per {o : Ori} {m : Bool} {S : List Int} {x : Int} (v : Valid o) (hx : Sq o.1.length x) : ∀ {i : Nat}, (∀ j, 1 ≤ j → j ≤ i → stopB o m S x j = false) → (rowU o x i).length = per o.1 x
  | 0, _ => by unfold rowU; rw [orb_len]; rfl
  | i + 1, h => by
    have h1 := (stop_mem (h (i + 1) (by omega) (Nat.le_refl _))).2
    rw [rowU_per v hx (Bool.or_eq_false_iff.1 h1).2]
    exact rows_per v hx fun j a b => h j a (by omega)
theorem rows_area {o : Ori} {m : Bool} {S : List Int} {x : Int} (v : Valid o) (hx : Sq o.1.length x) : ∀ {i : Nat}, (∀ j, 1 ≤ j → j < i → stopB o m S x j = false) → (rowsT o x i).flatten.length = i * per o.1 x
  | 0, _ => by simp [rowsT, tab]
  | i + 1, h => by
    rw [rowsT_flat, List.length_append, rows_area v hx (i := i) fun j a b => h j a (by omega), rows_per v hx (i := i) fun j a b => h j a (by omega), Nat.add_mul, Nat.one_mul]
theorem CyOk.grw {o : Ori} {m : Bool} {st : CySt} (h : CyOk o m st) {x : Int} (hx : Sq o.1.length x) (hm : x ∉ st.1) : CyOk o m (Fl.grw o m st x) := by
  obtain ⟨h1, h2, h3⟩ := h.gs.stops hx hm (m := m)
  refine ⟨h.gs.rows hx hm h2, ?_, fun b hb => ?_⟩
  · show st.1 ++ _ = flatB (st.2 ++ [_])
    rw [flatB_app, ← h.flat, flatB_one]; rfl
  · rcases List.mem_append.1 hb with hb | hb
    · exact h.ok b hb
    · rw [List.mem_singleton] at hb
      exact ⟨x, _, hx, h1, h.gs.le hx hm, hb, rows_area h.gs.v hx h2⟩
theorem mem_rows {o : Ori} {x y : Int} {h : Nat} : y ∈ (rowsT o x h).flatten ↔ ∃ i, i < h ∧ y ∈ rowU o x i := by
  rw [List.mem_flatten]
  constructor
  · rintro ⟨l, h1, h2⟩
    obtain ⟨i, hi, rfl⟩ := mem_nth' h1
    rw [rowsT_len] at hi
    exact ⟨i, hi, by rwa [rowsT, nth_tab hi] at h2⟩
  · rintro ⟨i, hi, h2⟩
    refine ⟨rowU o x i, ?_, h2⟩
    have := nth_mem (xs := rowsT o x h) (i := i) (by rw [rowsT_len]; exact hi)
    rwa [rowsT, nth_tab hi] at this
/-- The first pass. -/
theorem ph1_ok {o : Ori} {m : Bool} (v : Valid o) : ∀ {k : Nat}, k ≤ (cyR o).length → CyOk o m (ph1 o m k) ∧ ∀ j, k ≤ j → j < (cyR o).length → (m || posR o (nth (cyR o) j)) = true → nth (nth (cyR o) j) 0 ∉ (ph1 o m k).1
  | 0, _ => ⟨CyOk.nil v, fun _ _ _ _ h => by cases h⟩
  | k + 1, hk => by
    obtain ⟨ih1, ih2⟩ := ph1_ok v (k := k) (by omega)
    by_cases hb : (m || posR o (nth (cyR o) k)) = true
    · have e : ph1 o m (k + 1) = grw o m (ph1 o m k) (nth (nth (cyR o) k) 0) := if_pos hb
      obtain ⟨hx, hr⟩ := cyR_row v (k := k) (by omega)
      have hm := ih2 k (Nat.le_refl _) (by omega) hb
      rw [e]
      refine ⟨ih1.grw hx hm, fun j h1 h2 h3 hmem => ?_⟩
      obtain ⟨hxj, hrj⟩ := cyR_row v (k := j) h2
      rcases List.mem_append.1 hmem with hmem | hmem
      · exact ih2 j (by omega) h2 h3 hmem
      · obtain ⟨i, hi, hmem⟩ := mem_rows.1 hmem
        obtain ⟨_, q2, _⟩ := ih1.gs.stops hx hm (m := m)
        rcases Nat.eq_zero_or_pos i with rfl | hi0
        · have h4 : nth (nth (cyR o) j) 0 ∈ nth (cyR o) k := by rw [hr]; exact hmem
          have h5 : nth (nth (cyR o) j) 0 ∈ nth (cyR o) j := by
            have := v.pR.orb_self hxj
            rwa [← hrj] at this
          have := cyR_uniq v (by omega) h2 h4 h5
          omega
        · have hf := (stop_mem (q2 i hi0 hi)).2
          rw [Bool.or_eq_false_iff] at hf
          rw [hf.1, Bool.false_or] at h3
          obtain ⟨z, hz, hp⟩ := List.any_eq_true.1 h3
          have hz' : z ∈ orb o.1 (nth (nth (cyR o) j) 0) := by rw [← hrj]; exact hz
          exact posR_false hf.2 (v.pR.orb_trans (v.pU.its hx i) hmem hz') (of_decide_eq_true hp)
    · have e : ph1 o m (k + 1) = ph1 o m k := if_neg hb
      rw [e]
      exact ⟨ih1, fun j h1 h2 h3 => ih2 j (by omega) h2 h3⟩
theorem ph1_new {o : Ori} {m : Bool} (v : Valid o) {k : Nat} (hk : k < (cyR o).length) (hb : (m || posR o (nth (cyR o) k)) = true) : nth (nth (cyR o) k) 0 ∉ (ph1 o m k).1 := (ph1_ok v (by omega)).2 k (Nat.le_refl _) hk hb
theorem grw_head {o : Ori} {m : Bool} {st : CySt} (h : CyOk o m st) {x : Int} (hx : Sq o.1.length x) (hm : x ∉ st.1) : x ∈ (grw o m st x).1 :=
  List.mem_append.2 (.inr (mem_rows.2 ⟨0, (h.gs.stops hx hm (m := m)).1, h.gs.v.pR.orb_self hx⟩))
/-- The second pass. -/
theorem ph2_ok {o : Ori} {m : Bool} (v : Valid o) : ∀ {k : Nat}, k ≤ (cyR o).length → CyOk o m (ph2 o m k) ∧ ∀ j, j < k → nth (nth (cyR o) j) 0 ∈ (ph2 o m k).1
  | 0, _ => ⟨(ph1_ok v (Nat.le_refl _)).1, fun _ h => absurd h (by omega)⟩
  | k + 1, hk => by
    obtain ⟨ih1, ih2⟩ := ph2_ok v (m := m) (k := k) (by omega)
    obtain ⟨hx, _⟩ := cyR_row v (k := k) (by omega)
    by_cases hm : nth (nth (cyR o) k) 0 ∈ (ph2 o m k).1
    · have e : ph2 o m (k + 1) = ph2 o m k := if_pos hm
      rw [e]
      exact ⟨ih1, fun j hj => by
        by_cases e : j = k
        · subst e; exact hm
        · exact ih2 j (by omega)⟩
    · have e : ph2 o m (k + 1) = grw o m (ph2 o m k) (nth (nth (cyR o) k) 0) := if_neg hm
      rw [e]
      exact ⟨ih1.grw hx hm, fun j hj => by
        by_cases e : j = k
        · subst e; exact grw_head ih1 hx hm
        · exact List.mem_append.2 (.inl (ih2 j (by omega)))⟩
def phE (o : Ori) (m : Bool) : CySt := ph2 o m (cyR o).length
theorem phE_all {o : Ori} {m : Bool} (v : Valid o) {x : Int} (hx : Sq o.1.length x) : x ∈ (phE o m).1 := by
  obtain ⟨h1, h2⟩ := ph2_ok v (m := m) (Nat.le_refl _)
  obtain ⟨k, hk, hm⟩ := cyR_has v hx
  obtain ⟨hy, hr⟩ := cyR_row v hk
  rw [hr] at hm
  exact (h1.gs.c.orb v hy hm).2 (h2 k hk)
theorem phE_len {o : Ori} {m : Bool} (v : Valid o) : (phE o m).1.length = o.1.length := by
  have h1 := (ph2_ok v (m := m) (Nat.le_refl _)).1.gs.g
  have hp : (phE o m).1.Perm (sqs o.1.length) := (List.perm_ext_iff_of_nodup h1.nodup (nodup_of_lt sqs_lt)).2 fun x => ⟨fun h => mem_sqs.2 (h1.rng x h), fun h => phE_all v (mem_sqs.1 h)⟩
  rw [hp.length_eq, sqs, tab_len]
theorem BdOk.pos {o : Ori} {m : Bool} (v : Valid o) {b : BandT} (h : BdOk o m b) : 0 < b.2.2.flatten.length ∧ (0 < b.2.2.length ∧ b.2.2.length ≤ 1000000) ∧ ∀ l ∈ b.2.2, 0 < l.length ∧ ∀ x ∈ l, 0 ≤ x ∧ x < 1000000 := by
  obtain ⟨x, q, hx, h1, h2, rfl, h3⟩ := h.ex
  have hn := v.l1
  have hp := (v.pR.pers hx).2.1
  refine ⟨?_, ⟨by show 0 < (rowsT o x q).length; rw [rowsT_len]; omega, by show (rowsT o x q).length ≤ _; rw [rowsT_len]; omega⟩, fun l hl => ?_⟩
  · show 0 < (rowsT o x q).flatten.length
    rw [h3]; exact Nat.mul_pos (by omega) hp
  · obtain ⟨i, hi, rfl⟩ := mem_nth' hl
    have hi' : i < q := by have := hi; rwa [show ((per o.1 x : Int), ((q : Nat) : Int), rowsT o x q).2.2 = rowsT o x q from rfl, rowsT_len] at this
    have e : nth (rowsT o x q) i = rowU o x i := nth_tab hi'
    show 0 < (nth (rowsT o x q) i).length ∧ ∀ y ∈ nth (rowsT o x q) i, _
    rw [e]
    exact ⟨rowU_lenpos v hx, fun y hy => by
      have := v.pR.orb_rng (v.pU.its hx i) hy
      have h1 := this.1
      have h2 := this.2
      omega⟩
theorem flatB_many {o : Ori} {m : Bool} (v : Valid o) : ∀ {l : List BandT}, (∀ b ∈ l, BdOk o m b) → l.length ≤ (flatB l).length
  | [], _ => Nat.zero_le _
  | b :: l, h => by
    have ih := flatB_many v (l := l) fun b hb => h b (List.mem_cons_of_mem _ hb)
    have h1 := ((h b List.mem_cons_self).pos v).1
    have e : flatB (b :: l) = b.2.2.flatten ++ flatB l := by simp [flatB]
    rw [e, List.length_append, List.length_cons]; omega
theorem CyOk.len {o : Ori} {m : Bool} {st : CySt} (h : CyOk o m st) : st.2.length ≤ st.1.length ∧ st.1.length ≤ o.1.length := ⟨by have := flatB_many h.gs.v h.ok; rwa [← h.flat] at this, h.gs.g.len⟩
theorem phE_pos {o : Ori} {m : Bool} (v : Valid o) : 0 < (phE o m).2.length ∧ (phE o m).2.length ≤ o.1.length := by
  have h := (ph2_ok v (m := m) (Nat.le_refl _)).1
  have h1 := h.len
  have h2 : (phE o m).1.length = o.1.length := phE_len v
  refine ⟨Nat.pos_of_ne_zero fun e => ?_, Nat.le_trans h1.1 h1.2⟩
  have e' : (phE o m).2 = [] := List.eq_nil_of_length_eq_zero e
  have h3 := h.flat
  have h3' : (phE o m).1 = flatB (phE o m).2 := h3
  rw [e'] at h3'
  have := v.pos
  rw [h3'] at h2
  simp [flatB] at h2
  omega
/-! ### Sorted by the least square -/
abbrev keyB (b : BandT) : Int := lsB b.2.2
def srtB (l : List BandT) : List BandT := l.mergeSort fun a b => decide (keyB a ≤ keyB b)
theorem key_mem {o : Ori} {m : Bool} (v : Valid o) {b : BandT} (h : BdOk o m b) : keyB b ∈ b.2.2.flatten := by
  have hp := (h.pos v).2
  obtain ⟨l, h1, h2⟩ := lsK_mem (fun l h => (hp.2 l h).1) hp.1.1 (Nat.le_refl _)
  exact List.mem_flatten.2 ⟨l, h1, h2⟩
theorem flat_uniq {α β : Type} {f : α → List β} : ∀ {l : List α}, (l.map f).flatten.Nodup → ∀ {a b : α}, a ∈ l → b ∈ l → ∀ {x : β}, x ∈ f a → x ∈ f b → a = b
  | [], _, _, _, h, _, _, _, _ => by cases h
  | c :: l, hn, a, b, ha, hb, x, h1, h2 => by
    simp only [List.map_cons, List.flatten_cons] at hn
    obtain ⟨_, n2, n3⟩ := List.nodup_append.1 hn
    have hin : ∀ d ∈ l, x ∈ f d → x ∈ (l.map f).flatten := fun d hd hx => List.mem_flatten.2 ⟨f d, List.mem_map.2 ⟨d, hd, rfl⟩, hx⟩
    rcases List.mem_cons.1 ha with ea | qa
    · rcases List.mem_cons.1 hb with eb | qb
      · rw [ea, eb]
      · subst ea; exact absurd rfl (n3 _ h1 _ (hin _ qb h2))
    · rcases List.mem_cons.1 hb with eb | qb
      · subst eb; exact absurd rfl (n3 _ h2 _ (hin _ qa h1))
      · exact flat_uniq n2 qa qb h1 h2
theorem CyOk.keys {o : Ori} {m : Bool} {st : CySt} (h : CyOk o m st) {a b : BandT} (ha : a ∈ st.2) (hb : b ∈ st.2) (e : keyB a = keyB b) : a = b := by
  have hn : (st.2.map fun b : BandT => b.2.2.flatten).flatten.Nodup := by have := h.gs.g.nodup; rwa [h.flat] at this
  exact flat_uniq hn ha hb (key_mem h.gs.v (h.ok a ha)) (by rw [e]; exact key_mem h.gs.v (h.ok b hb))
theorem CyOk.sorted {o : Ori} {m : Bool} {st : CySt} (h : CyOk o m st) {l l' : List BandT} (hp : l.Perm st.2) (hp' : l'.Perm st.2) (hs : l.Pairwise fun a b => keyB a ≤ keyB b) (hs' : l'.Pairwise fun a b => keyB a ≤ keyB b) : l = l' :=
  (hp.trans hp'.symm).eq_of_pairwise (le := fun a b => keyB a ≤ keyB b) (fun _ _ ha hb h1 h2 => h.keys (hp.mem_iff.1 ha) (hp'.mem_iff.1 hb) (Int.le_antisymm h1 h2)) hs hs'
theorem srtB_pw {l : List BandT} : (srtB l).Pairwise fun a b => keyB a ≤ keyB b := by
  have := List.pairwise_mergeSort (le := fun a b : BandT => decide (keyB a ≤ keyB b)) (fun a b c h1 h2 => by simp only [decide_eq_true_eq] at *; omega) (fun a b => by simp only [Bool.or_eq_true, decide_eq_true_eq]; omega) l
  exact this.imp fun h => of_decide_eq_true h
theorem CyOk.srt {o : Ori} {m : Bool} {st : CySt} (h : CyOk o m st) {l : List BandT} (hp : l.Perm st.2) (hs : l.Pairwise fun a b => decide (keyB b - keyB a < 0) = false) : l = srtB st.2 :=
  h.sorted hp (List.mergeSort_perm _ _) (hs.imp fun h => by have := of_decide_eq_false h; omega) srtB_pw
def cylL (o : Ori) (m : Bool) : List BandT := srtB (phE o m).2
theorem cylL_perm {o : Ori} {m : Bool} : (cylL o m).Perm (phE o m).2 := List.mergeSort_perm _ _
theorem cylL_len {o : Ori} {m : Bool} : (cylL o m).length = (phE o m).2.length := cylL_perm.length_eq
/-! ### The area -/
def areaT (l : List BandT) (k : Nat) : Int := sumTo (fun i => (nth l i).1 * (nth l i).2.1) k
def areaS : List BandT → Int
  | [] => 0
  | b :: l => b.1 * b.2.1 + areaS l
theorem areaS_app : ∀ {a b : List BandT}, areaS (a ++ b) = areaS a + areaS b
  | [], b => by simp [areaS]
  | x :: a, b => by simp only [List.cons_append, areaS, areaS_app]; omega
theorem areaS_perm {a b : List BandT} (h : a.Perm b) : areaS a = areaS b := by
  induction h with
  | nil => rfl
  | cons x _ ih => simp only [areaS, ih]
  | swap x y l => simp only [areaS]; omega
  | trans _ _ h1 h2 => rw [h1, h2]
theorem areaT_take {l : List BandT} : ∀ {k : Nat}, k ≤ l.length → areaT l k = areaS (l.take k)
  | 0, _ => rfl
  | k + 1, hk => by
    rw [take_succ_nth (by omega), areaS_app, ← areaT_take (by omega)]
    show areaT l k + _ = _
    simp [areaS]
theorem areaT_all {l : List BandT} : areaT l l.length = areaS l := by rw [areaT_take (Nat.le_refl _), List.take_length]
theorem area_flat {o : Ori} {m : Bool} : ∀ {l : List BandT}, (∀ b ∈ l, BdOk o m b) → areaS l = (flatB l).length
  | [], _ => rfl
  | b :: l, h => by
    have ih := area_flat (l := l) fun b hb => h b (List.mem_cons_of_mem _ hb)
    obtain ⟨x, q, _, _, _, rfl, h3⟩ := (h b List.mem_cons_self).ex
    have e : flatB ((((per o.1 x : Int), ((q : Nat) : Int), rowsT o x q) : BandT) :: l) = (rowsT o x q).flatten ++ flatB l := by simp [flatB]
    rw [e, List.length_append, h3, areaS, ih, Int.natCast_add, Int.natCast_mul, Int.mul_comm]
theorem cyl_area {o : Ori} {m : Bool} (v : Valid o) : areaT (cylL o m) (cylL o m).length = o.1.length := by
  have h := (ph2_ok v (m := m) (Nat.le_refl _)).1
  have h1 : (phE o m).1 = flatB (phE o m).2 := h.flat
  have h2 : ∀ b ∈ (phE o m).2, BdOk o m b := h.ok
  rw [areaT_all, areaS_perm cylL_perm, area_flat h2, ← h1, phE_len v]
end Go.Fl

/- Cylinders: what the walk leans on. Plain Lean, no program in sight. -/
namespace Go.Fl
theorem any_congr' {α : Type} {f g : α → Bool} : ∀ {l : List α}, (∀ x ∈ l, f x = g x) → l.any f = l.any g
  | [], _ => rfl
  | a :: l, h => by
    rw [List.any_cons, List.any_cons, h a List.mem_cons_self, any_congr' fun x hx => h x (List.mem_cons_of_mem _ hx)]
theorem bnd_ord {o : Ori} (v : Valid o) {l : List Int} (h : ∀ x ∈ l, Sq o.1.length x) : (l.any fun y => decide (0 < nth (ordV o) y.toNat)) = posR o l :=
  any_congr' fun x hx => by rw [nth_ordV v (h x hx)]; rfl
theorem abv_sq {o : Ori} (v : Valid o) {l : List Int} (h : ∀ x ∈ l, Sq o.1.length x) : ∀ x ∈ abvL o l, Sq o.1.length x := fun x hx => by
  obtain ⟨y, hy, rfl⟩ := (mem_abvL v).1 hx
  exact v.pU.aps (h y hy)
theorem rowU_sq {o : Ori} (v : Valid o) {x : Int} (hx : Sq o.1.length x) {i : Nat} : ∀ y ∈ rowU o x i, Sq o.1.length y := fun _ hy => v.pR.orb_rng (v.pU.its hx i) hy
theorem bnd_row {o : Ori} (v : Valid o) {m : Bool} {x : Int} (hx : Sq o.1.length x) {i : Nat} : (m || (abvL o (rowU o x i)).any fun y => decide (0 < nth (ordV o) y.toNat)) = (m || posR o (rowU o x (i + 1))) := by
  rw [bnd_ord v (abv_sq v (rowU_sq v hx)), rowU_pos v hx]
theorem bnd_cyc {o : Ori} (v : Valid o) {m : Bool} {k : Nat} (hk : k < (cyR o).length) : (m || (nth (cyR o) k).any fun y => decide (0 < nth (ordV o) y.toNat)) = (m || posR o (nth (cyR o) k)) := by
  obtain ⟨hx, hr⟩ := cyR_row v hk
  rw [bnd_ord v]
  rw [hr]; exact fun y hy => v.pR.orb_rng hx hy
theorem rowU_head {o : Ori} (v : Valid o) {x : Int} (hx : Sq o.1.length x) {i : Nat} : nth (rowU o x i) 0 = it o.2 i x := nth_orb (v.pR.pers (v.pU.its hx i)).2.1
theorem rowU_le {o : Ori} (v : Valid o) {x : Int} (hx : Sq o.1.length x) {i : Nat} : (rowU o x i).length ≤ o.1.length := by
  unfold rowU; rw [orb_len]; exact (v.pR.pers (v.pU.its hx i)).2.2.1
theorem GS.end0 {o : Ori} {m : Bool} {S : List Int} {x : Int} (h : GS o S) (hx : Sq o.1.length x) (hm : x ∉ S) {i : Nat} (hs : ∀ j, 1 ≤ j → j < i → stopB o m S x j = false) (hi : it o.2 i x ∈ S ++ (rowsT o x i).flatten) : i = Fl.hgt o m S x := by
  rcases Nat.eq_zero_or_pos i with rfl | h0
  · exact absurd (by simpa [rowsT, tab, it] using hi) hm
  · exact (h.hgt hx hm h0 hs (by unfold stopB; rw [decide_eq_true hi, Bool.or_true])).symm
theorem GS.step {o : Ori} {m : Bool} {S : List Int} {x : Int} {i : Nat} (hs : ∀ j, 1 ≤ j → j < i → stopB o m S x j = false) (hb : 0 < i → (m || posR o (rowU o x i)) = false) (hi : it o.2 i x ∉ S ++ (rowsT o x i).flatten) : ∀ j, 1 ≤ j → j < i + 1 → stopB o m S x j = false := fun j h1 h2 => by
  by_cases e : j = i
  · subst e; unfold stopB; rw [decide_eq_false hi, Bool.or_false, hb h1]
  · exact hs j h1 (by omega)
theorem GS.end1 {o : Ori} {m : Bool} {S : List Int} {x : Int} (h : GS o S) (hx : Sq o.1.length x) (hm : x ∉ S) {i : Nat} (hs : ∀ j, 1 ≤ j → j < i + 1 → stopB o m S x j = false) (hb : (m || posR o (rowU o x (i + 1))) = true) : i + 1 = Fl.hgt o m S x :=
  (h.hgt hx hm (by omega) hs (by unfold stopB; rw [hb, Bool.true_or])).symm
theorem ph1_in {o : Ori} {m : Bool} {k : Nat} (h : (m || posR o (nth (cyR o) k)) = true) : ph1 o m (k + 1) = grw o m (ph1 o m k) (nth (nth (cyR o) k) 0) := if_pos h
theorem ph1_out {o : Ori} {m : Bool} {k : Nat} (h : (m || posR o (nth (cyR o) k)) = false) : ph1 o m (k + 1) = ph1 o m k := if_neg (by rw [h]; simp)
theorem ph2_in {o : Ori} {m : Bool} {k : Nat} (h : nth (nth (cyR o) k) 0 ∉ (ph2 o m k).1) : ph2 o m (k + 1) = grw o m (ph2 o m k) (nth (nth (cyR o) k) 0) := if_neg h
theorem ph2_out {o : Ori} {m : Bool} {k : Nat} (h : nth (nth (cyR o) k) 0 ∈ (ph2 o m k).1) : ph2 o m (k + 1) = ph2 o m k := if_pos h
theorem grw2 {o : Ori} {m : Bool} {st : CySt} {x : Int} : (grw o m st x).2.length = st.2.length + 1 := by unfold grw; rw [List.length_append]; rfl
theorem cyR_le {o : Ori} : (cyR o).length ≤ o.1.length := cycs_length
end Go.Fl

/- Contracts: the cylinders of the program. -/
namespace Go.Fl
open Go Go.Proofs


theorem ct_cyR (o : Ori) (v : Valid o) : Ct Try.prog 33 [kRd (eL eI) o.1] (kRd (eL (eL eI)) (cyR o)) := ct_cycles o.1 v.l1 v.rR


theorem ct_srtB (o : Ori) (m : Bool) (v : Valid o) {z : Bool} {ty : TypeId} : CtB Try.prog 53 (kOsl 0 (phE o m).2.length) [kClo 54 [kPtr (eFn (kDet (.func (.func 51) #[] #[]))) ()]] (cArr z ty eBand (phE o m).2 (phE o m).2.length) (cArr z ty eBand (cylL o m) (phE o m).2.length) (kDet (.tuple #[])) := by
  have h := (ph2_ok v (m := m) (Nat.le_refl _)).1
  have hp := phE_pos v (m := m)
  have hn := v.l1
  exact ctb_sortK Try.sortB eBand rfl (fun _ => by kernel_rfl) (fun _ => by kernel_rfl) (fun b => BdOk o m b) (fun a b => keyB a - keyB b) (swo_sub keyB) (fun a b ha hb => ct_cyl4 a b (ha.pos v).2 (hb.pos v).2) hp.1 (by omega) h.ok (fun l hl hs => h.srt hl hs)

set_option maxRecDepth 100000 in
set_option maxHeartbeats 2000000 in
theorem ct_oCylinders (o : Ori) (m : Bool) : Ct Try.prog 21 [kRd eO o, kB m] (kTup [kRd (eL eBand) (if chkO o = 0 then cylL o m else []), kI (chkO o)]) := by
  refine Ct.mk Try.func21 rfl Try.ntmps21 rfl (fun w J => ?_)
  refine Tr.seq ?_
  refine Tr.rg ?_
  refine TrL.new (ok_box 2 rfl (fun _ => rfl) rfl) rfl rfl rfl rfl ?_
  refine TrL.new (ok_box 3 rfl (fun _ => rfl) rfl) rfl rfl rfl rfl ?_
  refine TrL.op (ok_assign rfl (fun _ => rfl)) rfl rfl ?_
  refine TrL.op (ok_assign rfl (fun _ => rfl)) rfl rfl ?_
  refine TrL.fin ?_
  refine End.nxt ?_
  refine Tr.seq ?_
  refine Tr.seq ?_
  refine Tr.rg ?_
  refine TrL.op (ok_ldBS rfl (fun _ => rfl)) rfl rfl ?_
  refine TrL.op (ok_call (fun hp => ct_oCheck _) (.s rfl (fun _ => rfl) rfl <| .nil)) rfl rfl ?_
  refine TrL.op (ok_assign rfl (fun _ => rfl)) rfl rfl ?_
  refine TrL.fin ?_
  refine End.nxt ?_
  refine Tr.seq ?_
  refine Tr.rg ?_
  refine TrL.op (ok_move rfl (fun _ => rfl)) rfl rfl ?_
  refine TrL.op (ok_neq rfl (fun _ => rfl) rfl (fun _ => rfl)) rfl rfl ?_
  refine TrL.fin ?_
  refine End.nxt ?_
  refine Tr.cnd rfl ?_ ?_
  · intro h2
    replace h2 := of_decide_eq_true h2
    refine Tr.seq ?_
    refine Tr.rg ?_
    refine TrL.op (ok_move rfl (fun _ => rfl)) rfl rfl ?_
    refine TrL.op (ok_assign rfl (fun _ => rfl)) rfl rfl ?_
    refine TrL.op (ok_assign rfl (fun _ => rfl)) rfl rfl ?_
    refine TrL.fin ?_
    refine End.nxt ?_
    refine Tr.ret ?_
    refine Rts.thn ?_
    exact Rts.res (fn := Try.f21) (ts := [4, 5]) rfl rfl (.n rfl (by rw [if_neg h2]) <| .i rfl (by first | rfl | omega | (simp; done) | (simp; omega) | assumption) <| .nil)
  · intro h2
    replace h2 := Classical.not_not.1 (of_decide_eq_false h2)
    have v : Valid o := valid_of h2
    have hv0 := v.pos
    have hv1 := v.len
    have hv2 := v.le
    have hoL : (ordV o).length = o.1.length := rowTo_len
    have hcl := cyR_le (o := o)
    refine Tr.skip ?_
    refine End.nxt ?_
    refine Tr.seq ?_
    refine Tr.rg ?_
    refine TrL.op (ok_ldBS rfl (fun _ => rfl)) rfl rfl ?_
    refine TrL.op (ok_call (fun hp => ct_orders _ v) (.s rfl (fun _ => rfl) rfl <| .nil)) rfl rfl ?_
    refine TrL.op (ok_move rfl (fun _ => rfl)) rfl rfl ?_
    refine TrL.op (ok_ext rfl (fun _ => rfl) rfl) rfl rfl ?_
    refine TrL.op (ok_ext rfl (fun _ => rfl) rfl) rfl rfl ?_
    refine TrL.new (ok_alloc 7) rfl rfl rfl rfl ?_
    refine TrL.stB rfl rfl rfl rfl ?_
    refine TrL.op (ok_assign rfl (fun _ => rfl)) rfl rfl ?_
    refine TrL.fin ?_
    refine End.nxt ?_
    refine Tr.seq ?_
    refine Tr.frzB 2 [2] eO ⟨rfl, trivial⟩ rfl ?_
    refine Tr.frzB 3 [3] eBool ⟨rfl, trivial⟩ rfl ?_
    refine Tr.frzB 7 [7] (eL eI) ⟨rfl, trivial⟩ rfl ?_
    refine Tr.norm (S' := [⟨_, _, _, _⟩, ⟨_, _, _, _⟩, ⟨_, _, _, _⟩, ⟨_, _, _, _⟩, ⟨_, _, _, _⟩, ⟨_, _, _, _⟩, ⟨_, _, _, _⟩, ⟨_, _, _, _⟩, ⟨_, _, _, _⟩, ⟨_, _, _, _⟩, ⟨_, _, _, _⟩, ⟨_, _, _, _⟩, ⟨_, _, _, _⟩, ⟨_, _, _, _⟩, ⟨_, _, _, _⟩, ⟨_, _, _, _⟩, ⟨_, _, _, _⟩, ⟨_, _, _, _⟩, ⟨_, _, _, _⟩, ⟨_, _, _, _⟩, ⟨_, _, _, _⟩]) (M' := []) rfl rfl ?_
    refine Tr.rg ?_
    refine TrL.op (ok_clo (ks := [kPtr eBool m, kPtr (eL eI) (ordV o)]) (.cons rfl (fun _ => rfl) <| .cons rfl (fun _ => rfl) <| .nil)) rfl rfl ?_
    refine TrL.new (ok_alloc 9) rfl rfl rfl rfl ?_
    refine TrL.stB rfl rfl rfl rfl ?_
    refine TrL.fin ?_
    refine End.nxt ?_
    refine Tr.seq ?_
    refine Tr.frzB 9 [9] (eFn (kClo 46 [kPtr eBool m, kPtr (eL eI) (ordV o)])) ⟨rfl, trivial⟩ rfl ?_
    refine Tr.norm (S' := [⟨_, _, _, _⟩, ⟨_, _, _, _⟩, ⟨_, _, _, _⟩, ⟨_, _, _, _⟩, ⟨_, _, _, _⟩, ⟨_, _, _, _⟩, ⟨_, _, _, _⟩, ⟨_, _, _, _⟩, ⟨_, _, _, _⟩, ⟨_, _, _, _⟩, ⟨_, _, _, _⟩, ⟨_, _, _, _⟩, ⟨_, _, _, _⟩, ⟨_, _, _, _⟩, ⟨_, _, _, _⟩, ⟨_, _, _, _⟩, ⟨_, _, _, _⟩, ⟨_, _, _, _⟩, ⟨_, _, _, _⟩, ⟨_, _, _, _⟩, ⟨_, _, _, _⟩, ⟨_, _, _, _⟩, ⟨_, _, _, _⟩, ⟨_, _, _, _⟩]) (M' := []) rfl rfl ?_
    refine Tr.rg ?_
    refine TrL.op (ok_fldP rfl (fun _ => rfl) rfl) rfl rfl ?_
    refine TrL.op (ok_ldP rfl (fun _ => rfl) rfl) rfl rfl ?_
    refine TrL.op (ok_lenJ rfl (fun _ => rfl)) rfl rfl ?_
    refine TrL.new (ok_makeN eBool 32 rfl (fun _ => rfl) rfl (fun _ => rfl) rfl rfl rfl (fun _ => by omega)) rfl rfl rfl rfl ?_
    refine TrL.new (ok_alloc 10) rfl rfl rfl rfl ?_
    refine TrL.stB rfl rfl rfl rfl ?_
    refine TrL.fin ?_
    refine End.nxt ?_
    refine Tr.seq ?_
    refine Tr.rg ?_
    refine TrL.new (ok_alloc 11) rfl rfl rfl rfl ?_
    refine TrL.fin ?_
    refine End.nxt ?_
    refine Tr.seq ?_
    refine Tr.rg ?_
    refine TrL.op (ok_clo (ks := [kOwn 10 0, kPtr eO o, kPtr (eFn (kClo 46 [kPtr eBool m, kPtr (eL eI) (ordV o)])) (), kOwn 11 0]) (.cons rfl (fun _ => rfl) <| .cons rfl (fun _ => rfl) <| .cons rfl (fun _ => rfl) <| .cons rfl (fun _ => rfl) <| .nil)) rfl rfl ?_
    refine TrL.op (ok_assign rfl (fun _ => rfl)) rfl rfl ?_
    refine TrL.fin ?_
    refine End.nxt ?_
    refine Tr.seq ?_
    refine Tr.seq ?_
    refine Tr.rg ?_
    refine TrL.op (ok_fldP rfl (fun _ => rfl) rfl) rfl rfl ?_
    refine TrL.op (ok_ldP rfl (fun _ => rfl) rfl) rfl rfl ?_
    refine TrL.op (ok_call (fun hp => ct_cyR _ v) (.a rfl (fun _ => rfl) <| .nil)) rfl rfl ?_
    refine TrL.op (ok_lenJ rfl (fun _ => rfl)) rfl rfl ?_
    refine TrL.op (ok_move rfl (fun _ => rfl)) rfl rfl ?_
    refine TrL.fin ?_
    refine End.nxt ?_
    refine Tr.growC 11 0 33 rfl (ks' := [kOsl 33 0]) rfl rfl 53 eBand rfl (.cons inferInstance rfl <| inferInstance) ?_
    refine Tr.for1 (σ := Nat) [⟨2, true, _, _⟩, ⟨9, true, _, _⟩, ⟨10, true, _, _⟩, ⟨11, true, _, _⟩, ⟨12, true, _, _⟩, ⟨36, true, _, _⟩, ⟨37, true, _, _⟩] [] (fun k => [⟨38, true, [], kI (k : Int)⟩]) (fun k => [⟨10, [32], cBlk [kOsl 32 o.1.length]⟩, ⟨11, [33], cBlk [kOsl 33 (ph1 o m k).2.length]⟩, ⟨32, [], cArr false 4 eBool (seenB o.1.length (ph1 o m k).1) o.1.length⟩, ⟨33, [], cArr true 53 eBand (ph1 o m k).2 (ph1 o m k).2.length⟩]) (fun k => k ≤ (cyR o).length) (fun k => k = (cyR o).length) (fun k => (cyR o).length - k) (0) (Nat.zero_le _) (Ent.mk (.i rfl (by first | rfl | omega | (simp; done) | (simp; omega) | assumption) <| .k rfl rfl <| .k rfl rfl <| .k rfl rfl <| .k rfl rfl <| .k rfl rfl <| .k rfl rfl <| .k rfl rfl <| .nil) (.k rfl <| .e (by rfl) rfl <| .a (by rw [show (ph1 o m 0).1 = [] from rfl, seenB_nil]) (by first | rfl | omega | (simp; done) | (simp; omega) | assumption) <| .a (by rfl) (by first | rfl | omega | (simp; done) | (simp; omega) | assumption) <| .nil) rfl) ?_ ?_
    · intro k hR0
      refine Tr.norm (S' := [⟨38, true, _, _⟩, ⟨2, true, _, _⟩, ⟨9, true, _, _⟩, ⟨10, true, _, _⟩, ⟨11, true, _, _⟩, ⟨12, true, _, _⟩, ⟨36, true, _, _⟩, ⟨37, true, _, _⟩]) (M' := [⟨10, _, _⟩, ⟨11, _, _⟩, ⟨32, _, _⟩, ⟨33, _, _⟩]) rfl rfl ?_
      refine Tr.seq ?_
      refine Tr.rg ?_
      refine TrL.op (ok_lss rfl (fun _ => rfl) rfl (fun _ => rfl)) rfl rfl ?_
      refine TrL.fin ?_
      refine End.nxt ?_
      refine Tr.seq ?_
      refine Tr.cnd rfl ?_ ?_
      · intro h10
        replace h10 := of_decide_eq_true h10
        obtain ⟨hx, hrow⟩ := cyR_row v (k := k) (by omega)
        have hst := (ph1_ok (m := m) v (k := k) (by omega)).1
        have hsl := hst.len
        refine Tr.skip ?_
        refine End.nxt ?_
        refine Tr.seq ?_
        refine Tr.blk ?_
        refine Tr.seq ?_
        refine Tr.rg ?_
        first | refine TrL.op (ok_idxN rfl (fun _ => rfl) rfl (fun _ => rfl) rfl (fun _ => by omega)) rfl rfl ?_ | refine TrL.op (ok_idxP rfl (fun _ => rfl) rfl (fun _ => rfl) rfl (fun _ => by omega)) rfl rfl ?_
        refine TrL.op (ok_ldP rfl (fun _ => rfl) rfl) rfl rfl ?_
        refine TrL.op (ok_assign rfl (fun _ => rfl)) rfl rfl ?_
        refine TrL.fin ?_
        refine End.nxt ?_
        refine Tr.seq ?_
        refine Tr.rg ?_
        refine TrL.op (ok_ldP rfl (fun _ => rfl) rfl) rfl rfl ?_
        refine TrL.op (ok_move rfl (fun _ => rfl)) rfl rfl ?_
        refine TrL.op (ok_callK rfl (fun _ => rfl) (fun hp => ct_cyl1 (nth (cyR o) k) m (ordV o) (fun y hy => by rw [hrow] at hy; have h := v.pR.orb_rng hx hy; exact ⟨h.1, by rw [hoL]; exact h.2⟩)) (.a rfl (fun _ => rfl) <| .nil)) rfl rfl ?_
        refine TrL.fin ?_
        refine End.nxt ?_
        refine Tr.cnd rfl ?_ ?_
        · intro h12
          rw [bnd_cyc v (by omega)] at h12
          have hb0 := h12
          have hxm := ph1_new v (by omega) hb0
          refine Tr.rwR (s := 14) rfl hrow ?_
          refine Tr.rg ?_
          refine TrL.op (ok_move rfl (fun _ => rfl)) rfl rfl ?_
          refine TrL.op (ok_move rfl (fun _ => rfl)) rfl rfl ?_
          refine TrL.inl (res := kDet (.tuple #[])) (ks := [kRd (eL eI) (orb o.1 (nth (nth (cyR o) k) 0))]) (hds := (inferInstance : DepsOf [kRd (eL eI) (orb o.1 (nth (nth (cyR o) k) 0)), kOwn 10 0, kPtr eO o, kPtr (eFn (kClo 46 [kPtr eBool m, kPtr (eL eI) (ordV o)])) (), kOwn 11 0] _)) [10, 11, 32] Try.func49 rfl Try.ntmps49 rfl rfl (.cons rfl (fun _ => rfl) <| .nil) rfl rfl [⟨10, [32], cBlk [kOsl 32 o.1.length]⟩, ⟨11, [33], cBlk [kOsl 33 (grw o m (ph1 o m k) (nth (nth (cyR o) k) 0)).2.length]⟩, ⟨32, [], cArr false 4 eBool (seenB o.1.length (grw o m (ph1 o m k) (nth (nth (cyR o) k) 0)).1) o.1.length⟩, ⟨33, [], cArr true 53 eBand (grw o m (ph1 o m k) (nth (nth (cyR o) k) 0)).2 (grw o m (ph1 o m k) (nth (nth (cyR o) k) 0)).2.length⟩] rfl rfl rfl (fun J13 bks13 => ?_) ?_
          · skip
            refine Tr.seq ?_
            refine Tr.rg ?_
            refine TrL.op (ok_move rfl (fun _ => rfl)) rfl rfl ?_
            refine TrL.op (ok_lenJ rfl (fun _ => rfl)) rfl rfl ?_
            refine TrL.op (ok_build (fun hp => .cons rfl rfl rfl <| .nil)) rfl rfl ?_
            refine TrL.new (ok_alloc 6) rfl rfl rfl rfl ?_
            refine TrL.stB rfl rfl rfl rfl ?_
            refine TrL.fin ?_
            refine End.nxt ?_
            refine Tr.seq ?_
            refine Tr.seq ?_
            refine Tr.rg ?_
            refine TrL.op (ok_move rfl (fun _ => rfl)) rfl rfl ?_
            refine TrL.op (ok_assign rfl (fun _ => rfl)) rfl rfl ?_
            refine TrL.fin ?_
            refine End.nxt ?_
            refine Tr.growC 6 2 60 rfl (ks' := [_, _, kOsl 60 0]) rfl rfl 22 (eL eI) rfl (.cons inferInstance rfl <| .cons inferInstance rfl <| .cons inferInstance rfl <| inferInstance) ?_
            refine Tr.for1 (σ := Nat × List Int) [⟨1, true, _, _⟩, ⟨2, true, _, _⟩, ⟨3, true, _, _⟩, ⟨4, true, _, _⟩, ⟨6, true, _, _⟩, ⟨61, true, _, _⟩, ⟨62, true, _, _⟩, ⟨83, true, _, _⟩] [⟨10, _, _⟩, ⟨11, _, _⟩, ⟨33, _, _⟩] (fun (i, nx) => [⟨7, true, [], kRd (eL eI) nx⟩]) (fun (i, nx) => [⟨6, [60], cBlk [kI ((orb o.1 (nth (nth (cyR o) k) 0)).length : Int), kI 0, kOsl 60 i]⟩, ⟨60, [], cArr true 22 (eL eI) (rowsT o (nth (nth (cyR o) k) 0) i) i⟩, ⟨32, [], cArr false 4 eBool (seenB o.1.length ((ph1 o m k).1 ++ (rowsT o (nth (nth (cyR o) k) 0) i).flatten)) o.1.length⟩]) (fun (i, nx) => nx = (rowU o (nth (nth (cyR o) k) 0) i) ∧ (∀ j, 1 ≤ j → j < i → stopB o m (ph1 o m k).1 (nth (nth (cyR o) k) 0) j = false) ∧ (0 < i → (m || posR o (rowU o (nth (nth (cyR o) k) 0) i)) = false)) (fun (i, nx) => i = hgt o m (ph1 o m k).1 (nth (nth (cyR o) k) 0)) (fun (i, nx) => o.1.length + 1 - i) ((0, (rowU o (nth (nth (cyR o) k) 0) 0))) ⟨rfl, fun j a b => by omega, fun h => absurd h (by omega)⟩ (Ent.mk (.r rfl (by rfl) <| .k rfl rfl <| .k rfl rfl <| .k rfl rfl <| .k rfl rfl <| .k rfl rfl <| .k rfl rfl <| .k rfl rfl <| .k rfl rfl <| .nil) (.e (by rfl) rfl <| .a (by rfl) (by first | rfl | omega | (simp; done) | (simp; omega) | assumption) <| .a (by rw [show (rowsT o (nth (nth (cyR o) k) 0) 0).flatten = [] from rfl, List.append_nil]) (by first | rfl | omega | (simp; done) | (simp; omega) | assumption) <| .k rfl <| .k rfl <| .k rfl <| .nil) rfl) ?_ ?_
            · rintro ⟨i, _⟩ ⟨rfl, hs, hb⟩
              refine Tr.norm (S' := [⟨7, true, _, _⟩, ⟨1, true, _, _⟩, ⟨2, true, _, _⟩, ⟨3, true, _, _⟩, ⟨4, true, _, _⟩, ⟨6, true, _, _⟩, ⟨61, true, _, _⟩, ⟨62, true, _, _⟩, ⟨83, true, _, _⟩]) (M' := [⟨6, _, _⟩, ⟨60, _, _⟩, ⟨32, _, _⟩, ⟨10, _, _⟩, ⟨11, _, _⟩, ⟨33, _, _⟩]) rfl rfl ?_
              refine Tr.seq ?_
              refine Tr.seq ?_
              refine Tr.draw 4 mixed (by kernel_rfl) ?_
              have hyi := v.pU.its hx i
              have hu0 := rowU_head v hx (i := i)
              have hy0 : 0 ≤ nth (rowU o (nth (nth (cyR o) k) 0) i) 0 := by rw [hu0]; exact hyi.1
              have hy1 : nth (rowU o (nth (nth (cyR o) k) 0) i) 0 < o.1.length := by rw [hu0]; exact hyi.2
              have hul := rowU_lenpos v hx (i := i)
              refine RunD.op (ok_ldB rfl (fun _ => rfl) rfl) rfl rfl ?_
              refine RunD.op (ok_move rfl (fun _ => rfl)) rfl rfl ?_
              refine RunD.op (ok_idxN (i := 0) rfl (fun _ => rfl) rfl (fun _ => rfl) rfl (fun _ => by omega)) rfl rfl ?_
              refine RunD.op (ok_ldP rfl (fun _ => rfl) rfl) rfl rfl ?_
              refine RunD.z ?_
              first | refine TrL.op (ok_idxEN rfl (fun _ => rfl) rfl (fun _ => rfl) (fun _ => by omega)) rfl rfl ?_ | refine TrL.op (ok_idxE rfl (fun _ => rfl) rfl (fun _ => rfl) (fun _ => by omega)) rfl rfl ?_
              refine TrL.op (ok_ldE rfl (fun _ => rfl) rfl rfl rfl) rfl rfl ?_
              refine TrL.op (ok_not rfl (fun _ => rfl)) rfl rfl ?_
              refine TrL.fin ?_
              refine End.nxt ?_
              refine Tr.cnd rfl ?_ ?_
              · intro h2
                rw [nth_seenB' hy0 hy1, hu0] at h2
                simp only [Bool.not_eq_true', decide_eq_false_iff_not] at h2
                have hs1 := GS.step hs hb h2
                have hfw := hst.gs.few hx hxm hs1
                have hul2 := rowU_le v hx (i := i)
                refine Tr.skip ?_
                refine End.nxt ?_
                refine Tr.blk ?_
                refine Tr.seq ?_
                refine Tr.seq ?_
                refine Tr.rg ?_
                refine TrL.op (ok_move rfl (fun _ => rfl)) rfl rfl ?_
                refine TrL.op (ok_lenJ rfl (fun _ => rfl)) rfl rfl ?_
                refine TrL.op (ok_move rfl (fun _ => rfl)) rfl rfl ?_
                refine TrL.fin ?_
                refine End.nxt ?_
                refine Tr.for1 (σ := Nat) [⟨1, true, _, _⟩, ⟨2, true, _, _⟩, ⟨3, true, _, _⟩, ⟨4, true, _, _⟩, ⟨6, true, _, _⟩, ⟨7, true, _, _⟩, ⟨21, true, _, _⟩, ⟨22, true, _, _⟩, ⟨61, true, _, _⟩, ⟨62, true, _, _⟩, ⟨83, true, _, _⟩] [⟨10, _, _⟩, ⟨11, _, _⟩, ⟨33, _, _⟩, ⟨6, _, _⟩, ⟨60, _, _⟩] (fun j => [⟨23, true, [], kI (j : Int)⟩]) (fun j => [⟨32, [], cArr false 4 eBool (seenB o.1.length ((ph1 o m k).1 ++ (rowsT o (nth (nth (cyR o) k) 0) i).flatten ++ (rowU o (nth (nth (cyR o) k) 0) i).take j)) o.1.length⟩]) (fun j => j ≤ (rowU o (nth (nth (cyR o) k) 0) i).length) (fun j => j = (rowU o (nth (nth (cyR o) k) 0) i).length) (fun j => (rowU o (nth (nth (cyR o) k) 0) i).length - j) (0) (Nat.zero_le _) (Ent.mk (.i rfl (by first | rfl | omega | (simp; done) | (simp; omega) | assumption) <| .k rfl rfl <| .k rfl rfl <| .k rfl rfl <| .k rfl rfl <| .k rfl rfl <| .k rfl rfl <| .k rfl rfl <| .k rfl rfl <| .k rfl rfl <| .k rfl rfl <| .k rfl rfl <| .nil) (.a (by rw [List.take_zero, List.append_nil]) (by first | rfl | omega | (simp; done) | (simp; omega) | assumption) <| .k rfl <| .k rfl <| .k rfl <| .k rfl <| .k rfl <| .nil) rfl) ?_ ?_
                · intro j hR1
                  refine Tr.norm (S' := [⟨23, true, _, _⟩, ⟨1, true, _, _⟩, ⟨2, true, _, _⟩, ⟨3, true, _, _⟩, ⟨4, true, _, _⟩, ⟨6, true, _, _⟩, ⟨7, true, _, _⟩, ⟨21, true, _, _⟩, ⟨22, true, _, _⟩, ⟨61, true, _, _⟩, ⟨62, true, _, _⟩, ⟨83, true, _, _⟩]) (M' := [⟨32, _, _⟩, ⟨10, _, _⟩, ⟨11, _, _⟩, ⟨33, _, _⟩, ⟨6, _, _⟩, ⟨60, _, _⟩]) rfl rfl ?_
                  refine Tr.seq ?_
                  refine Tr.rg ?_
                  refine TrL.op (ok_lss rfl (fun _ => rfl) rfl (fun _ => rfl)) rfl rfl ?_
                  refine TrL.fin ?_
                  refine End.nxt ?_
                  refine Tr.seq ?_
                  refine Tr.cnd rfl ?_ ?_
                  · intro h4
                    replace h4 := of_decide_eq_true h4
                    refine Tr.skip ?_
                    refine End.nxt ?_
                    refine Tr.seq ?_
                    refine Tr.blk ?_
                    refine Tr.seq ?_
                    refine Tr.rg ?_
                    first | refine TrL.op (ok_idxN rfl (fun _ => rfl) rfl (fun _ => rfl) rfl (fun _ => by omega)) rfl rfl ?_ | refine TrL.op (ok_idxP rfl (fun _ => rfl) rfl (fun _ => rfl) rfl (fun _ => by omega)) rfl rfl ?_
                    refine TrL.op (ok_ldP rfl (fun _ => rfl) rfl) rfl rfl ?_
                    refine TrL.op (ok_assign rfl (fun _ => rfl)) rfl rfl ?_
                    refine TrL.fin ?_
                    refine End.nxt ?_
                    refine Tr.rg ?_
                    have hje := rowU_sq v hx _ (nth_mem (xs := (rowU o (nth (nth (cyR o) k) 0) i)) (i := j) (by omega))
                    have hje0 := hje.1
                    have hje1 := hje.2
                    refine TrL.op (ok_ldB rfl (fun _ => rfl) rfl) rfl rfl ?_
                    refine TrL.op (ok_move rfl (fun _ => rfl)) rfl rfl ?_
                    first | refine TrL.op (ok_idxEN rfl (fun _ => rfl) rfl (fun _ => rfl) (fun _ => by omega)) rfl rfl ?_ | refine TrL.op (ok_idxE rfl (fun _ => rfl) rfl (fun _ => rfl) (fun _ => by omega)) rfl rfl ?_
                    refine TrL.stE rfl rfl rfl rfl rfl ?_
                    refine TrL.fin ?_
                    refine End.blk ?_
                    refine End.nxt ?_
                    refine Tr.rg ?_
                    refine TrL.op (ok_add rfl (fun _ => rfl) rfl (fun _ => rfl) (fun _ => by omega)) rfl rfl ?_
                    refine TrL.op (ok_move rfl (fun _ => rfl)) rfl rfl ?_
                    refine TrL.fin ?_
                    exact End.lp (j + 1) (by first | rfl | omega | (simp; done) | (simp; omega) | assumption) (by omega) (Ent.mk (.i rfl (by first | rfl | omega | (simp; done) | (simp; omega) | assumption) <| .k rfl rfl <| .k rfl rfl <| .k rfl rfl <| .k rfl rfl <| .k rfl rfl <| .k rfl rfl <| .k rfl rfl <| .k rfl rfl <| .k rfl rfl <| .k rfl rfl <| .k rfl rfl <| .nil) (.a (by rw [take_succ_nth (by omega), seenB_set hje0, List.append_assoc]) (by first | rfl | omega | (simp; done) | (simp; omega) | assumption) <| .k rfl <| .k rfl <| .k rfl <| .k rfl <| .k rfl <| .nil) rfl)
                  · intro h4
                    replace h4 := Int.not_lt.1 (of_decide_eq_false h4)
                    refine Tr.exit ?_
                    refine Exs.thn ?_
                    refine Exs.thn ?_
                    refine Exs.here ?_
                    exact End.cut (j) (by omega) (Ent.mk (.i rfl (by first | rfl | omega | (simp; done) | (simp; omega) | assumption) <| .k rfl rfl <| .k rfl rfl <| .k rfl rfl <| .k rfl rfl <| .k rfl rfl <| .k rfl rfl <| .k rfl rfl <| .k rfl rfl <| .k rfl rfl <| .k rfl rfl <| .k rfl rfl <| .nil) (.a (by first | rfl | omega | (simp; done) | (simp; omega) | assumption) (by first | rfl | omega | (simp; done) | (simp; omega) | assumption) <| .k rfl <| .k rfl <| .k rfl <| .k rfl <| .k rfl <| .nil) rfl)
                · rintro _ rfl
                  refine End.norm (S' := [⟨23, true, _, _⟩, ⟨1, true, _, _⟩, ⟨2, true, _, _⟩, ⟨3, true, _, _⟩, ⟨4, true, _, _⟩, ⟨6, true, _, _⟩, ⟨7, true, _, _⟩, ⟨21, true, _, _⟩, ⟨22, true, _, _⟩, ⟨61, true, _, _⟩, ⟨62, true, _, _⟩, ⟨83, true, _, _⟩]) (M' := [⟨32, _, _⟩, ⟨10, _, _⟩, ⟨11, _, _⟩, ⟨33, _, _⟩, ⟨6, _, _⟩, ⟨60, _, _⟩]) rfl rfl ?_
                  refine End.nxt ?_
                  refine Tr.seq ?_
                  refine Tr.rg ?_
                  refine TrL.op (ok_fldO rfl (fun _ => rfl)) rfl rfl ?_
                  refine TrL.op (ok_ldB rfl (fun _ => rfl) rfl) rfl rfl ?_
                  refine TrL.op (ok_move rfl (fun _ => rfl)) rfl rfl ?_
                  refine TrL.new (ok_bsl (eL eI) 34 (fun hp => .cons rfl <| .nil) rfl rfl rfl rfl) rfl rfl rfl rfl ?_
                  refine TrL.wkC 6 (.k <| .k <| .any <| .nil) rfl ?_
                  refine TrL.app rfl rfl rfl rfl rfl rfl rfl rfl (by first | omega | (simp only [List.length_cons, List.length_nil]; omega)) (by first | omega | (simp only [List.length_cons, List.length_nil]; omega)) ?_
                  refine TrL.norm (S' := [⟨_, _, _, _⟩, ⟨_, _, _, _⟩, ⟨_, _, _, _⟩, ⟨_, _, _, _⟩, ⟨_, _, _, _⟩, ⟨_, _, _, _⟩, ⟨_, _, _, _⟩, ⟨_, _, _, _⟩, ⟨_, _, _, _⟩, ⟨_, _, _, _⟩, ⟨_, _, _, _⟩, ⟨_, _, _, _⟩, ⟨_, _, _, _⟩, ⟨_, _, _, _⟩, ⟨_, _, _, _⟩, ⟨_, _, _, _⟩, ⟨_, _, _, _⟩]) rfl rfl ?_
                  refine TrL.op (ok_fldO rfl (fun _ => rfl)) rfl rfl ?_
                  refine TrL.stB rfl rfl rfl rfl ?_
                  refine TrL.fin ?_
                  refine End.nxt ?_
                  refine Tr.seq ?_
                  refine Tr.rg ?_
                  refine TrL.op (ok_ldPA rfl (fun _ => rfl) rfl rfl) rfl rfl ?_
                  refine TrL.op (ok_move rfl (fun _ => rfl)) rfl rfl ?_
                  refine TrL.op (ok_call (fun hp => ct_above o (rowU o (nth (nth (cyR o) k) 0) i) (fun y hy => by have h := rowU_sq v hx y hy; exact ⟨h.1, by have := v.len; have := h.2; omega⟩) (by omega)) (.a rfl (fun _ => rfl) <| .a rfl (fun _ => rfl) <| .nil)) rfl rfl ?_
                  refine TrL.op (ok_assign rfl (fun _ => rfl)) rfl rfl ?_
                  refine TrL.fin ?_
                  refine End.nxt ?_
                  refine Tr.seq ?_
                  refine Tr.rg ?_
                  refine TrL.op (ok_ldP rfl (fun _ => rfl) rfl) rfl rfl ?_
                  refine TrL.op (ok_move rfl (fun _ => rfl)) rfl rfl ?_
                  refine TrL.op (ok_callK rfl (fun _ => rfl) (fun hp => ct_cyl1 (abvL o (rowU o (nth (nth (cyR o) k) 0) i)) m (ordV o) (fun y hy => by have h := abv_sq v (rowU_sq v hx) y hy; exact ⟨h.1, by rw [hoL]; exact h.2⟩)) (.a rfl (fun _ => rfl) <| .nil)) rfl rfl ?_
                  refine TrL.fin ?_
                  refine End.nxt ?_
                  refine Tr.cnd rfl ?_ ?_
                  · intro h10
                    rw [bnd_row v hx] at h10
                    refine Tr.exit ?_
                    refine Exs.out rfl ?_
                    refine Exs.thn ?_
                    refine Exs.here ?_
                    exact End.cut ((i + 1, abvL o (rowU o (nth (nth (cyR o) k) 0) i))) (hst.gs.end1 hx hxm hs1 h10) (Ent.mk (.r rfl (by first | rfl | omega | (simp; done) | (simp; omega) | assumption) <| .k rfl rfl <| .k rfl rfl <| .k rfl rfl <| .k rfl rfl <| .k rfl rfl <| .k rfl rfl <| .k rfl rfl <| .k rfl rfl <| .nil) (.e (by rfl) rfl <| .a (by rw [rowsT_succ]) (by first | rfl | omega | (simp; done) | (simp; omega) | assumption) <| .a (by rw [List.take_length, rowsT_flat, List.append_assoc]) (by first | rfl | omega | (simp; done) | (simp; omega) | assumption) <| .k rfl <| .k rfl <| .k rfl <| .nil) rfl)
                  · intro h10
                    rw [bnd_row v hx] at h10
                    have hnx := rowU_next v hx (by rw [rowU_pos v hx]; exact (Bool.or_eq_false_iff.1 h10).2)
                    refine Tr.skip ?_
                    refine End.blk ?_
                    exact End.lp ((i + 1, (rowU o (nth (nth (cyR o) k) 0) (i + 1)))) ⟨rfl, hs1, fun _ => h10⟩ (show o.1.length + 1 - (i + 1) < o.1.length + 1 - i by omega) (Ent.mk (.r rfl hnx <| .k rfl rfl <| .k rfl rfl <| .k rfl rfl <| .k rfl rfl <| .k rfl rfl <| .k rfl rfl <| .k rfl rfl <| .k rfl rfl <| .nil) (.e (by rfl) rfl <| .a (by rw [rowsT_succ]) (by first | rfl | omega | (simp; done) | (simp; omega) | assumption) <| .a (by rw [List.take_length, rowsT_flat, List.append_assoc]) (by first | rfl | omega | (simp; done) | (simp; omega) | assumption) <| .k rfl <| .k rfl <| .k rfl <| .nil) rfl)
              · intro h2
                rw [nth_seenB' hy0 hy1, hu0] at h2
                simp only [Bool.not_eq_false', decide_eq_true_eq] at h2
                refine Tr.exit ?_
                refine Exs.thn ?_
                refine Exs.thn ?_
                refine Exs.here ?_
                exact End.cut ((i, (rowU o (nth (nth (cyR o) k) 0) i))) (hst.gs.end0 hx hxm hs h2) (Ent.mk (.r rfl (by first | rfl | omega | (simp; done) | (simp; omega) | assumption) <| .k rfl rfl <| .k rfl rfl <| .k rfl rfl <| .k rfl rfl <| .k rfl rfl <| .k rfl rfl <| .k rfl rfl <| .k rfl rfl <| .nil) (.k rfl <| .a (by first | rfl | omega | (simp; done) | (simp; omega) | assumption) (by first | rfl | omega | (simp; done) | (simp; omega) | assumption) <| .a (by first | rfl | omega | (simp; done) | (simp; omega) | assumption) (by first | rfl | omega | (simp; done) | (simp; omega) | assumption) <| .k rfl <| .k rfl <| .k rfl <| .nil) rfl)
            · rintro ⟨_, nx⟩ rfl
              refine End.norm (S' := [⟨7, true, _, _⟩, ⟨1, true, _, _⟩, ⟨2, true, _, _⟩, ⟨3, true, _, _⟩, ⟨4, true, _, _⟩, ⟨6, true, _, _⟩, ⟨61, true, _, _⟩, ⟨62, true, _, _⟩, ⟨83, true, _, _⟩]) (M' := [⟨6, _, _⟩, ⟨60, _, _⟩, ⟨32, _, _⟩, ⟨10, _, _⟩, ⟨11, _, _⟩, ⟨33, _, _⟩]) rfl rfl ?_
              have hhl := hst.gs.le hx hxm (m := m)
              refine End.nxt ?_
              refine Tr.seq ?_
              refine Tr.rg ?_
              refine TrL.op (ok_fldO rfl (fun _ => rfl)) rfl rfl ?_
              refine TrL.op (ok_ldB rfl (fun _ => rfl) rfl) rfl rfl ?_
              refine TrL.op (ok_lenO rfl (fun _ => rfl)) rfl rfl ?_
              refine TrL.op (ok_fldO rfl (fun _ => rfl)) rfl rfl ?_
              refine TrL.stB rfl rfl rfl rfl ?_
              refine TrL.fin ?_
              refine End.nxt ?_
              refine Tr.frzC 60 6 (by simp only [lenMax]; omega) rfl rfl ?_
              refine Tr.rg ?_
              refine TrL.op (ok_ldB rfl (fun _ => rfl) rfl) rfl rfl ?_
              refine TrL.op (ok_ldBS rfl (fun _ => rfl)) rfl rfl ?_
              refine TrL.new (ok_bsl eBand 49 (fun hp => .cons rfl <| .nil) rfl rfl rfl rfl) rfl rfl rfl rfl ?_
              refine TrL.wkC 11 (.any <| .nil) rfl ?_
              refine TrL.app rfl rfl rfl rfl rfl rfl rfl rfl (by first | omega | (simp only [List.length_cons, List.length_nil]; omega)) (by first | omega | (simp only [List.length_cons, List.length_nil]; omega)) ?_
              refine TrL.norm (S' := [⟨_, _, _, _⟩, ⟨_, _, _, _⟩, ⟨_, _, _, _⟩, ⟨_, _, _, _⟩, ⟨_, _, _, _⟩, ⟨_, _, _, _⟩, ⟨_, _, _, _⟩, ⟨_, _, _, _⟩, ⟨_, _, _, _⟩, ⟨_, _, _, _⟩, ⟨_, _, _, _⟩, ⟨_, _, _, _⟩, ⟨_, _, _, _⟩, ⟨_, _, _, _⟩, ⟨_, _, _, _⟩, ⟨_, _, _, _⟩, ⟨_, _, _, _⟩]) rfl rfl ?_
              refine TrL.stB rfl rfl rfl rfl ?_
              refine TrL.fin ?_
              exact End.inlE (n := 51) (bks := bks13) rfl (Ent.mk (.k rfl rfl <| .k rfl rfl <| .k rfl rfl <| .nil) (.k rfl <| .e (by rw [grw2]; rfl) rfl <| .a (by unfold grw; rfl) (by first | rfl | omega | (simp; done) | (simp; omega) | assumption) <| .a (by unfold grw bandG; rw [orb_len]) grw2.symm <| .nil) rfl) (.cons rfl <| .cons rfl <| .cons rfl <| .nil)
          refine TrL.norm (S' := [⟨_, _, _, _⟩, ⟨_, _, _, _⟩, ⟨_, _, _, _⟩, ⟨_, _, _, _⟩, ⟨_, _, _, _⟩, ⟨_, _, _, _⟩, ⟨_, _, _, _⟩, ⟨_, _, _, _⟩, ⟨_, _, _, _⟩, ⟨_, _, _, _⟩, ⟨_, _, _, _⟩, ⟨_, _, _, _⟩, ⟨_, _, _, _⟩, ⟨_, _, _, _⟩, ⟨_, _, _, _⟩, ⟨_, _, _, _⟩, ⟨_, _, _, _⟩, ⟨_, _, _, _⟩, ⟨_, _, _, _⟩]) rfl rfl ?_
          refine TrL.fin ?_
          refine End.blk ?_
          refine End.nxt ?_
          refine Tr.rg ?_
          refine TrL.op (ok_add rfl (fun _ => rfl) rfl (fun _ => rfl) (fun _ => by omega)) rfl rfl ?_
          refine TrL.op (ok_move rfl (fun _ => rfl)) rfl rfl ?_
          refine TrL.fin ?_
          exact End.lp (k + 1) (by first | rfl | omega | (simp; done) | (simp; omega) | assumption) (by omega) (Ent.mk (.i rfl (by first | rfl | omega | (simp; done) | (simp; omega) | assumption) <| .k rfl rfl <| .k rfl rfl <| .k rfl rfl <| .k rfl rfl <| .k rfl rfl <| .k rfl rfl <| .k rfl rfl <| .nil) (.k rfl <| .e (by rw [ph1_in hb0]) rfl <| .a (by rw [ph1_in hb0]) (by first | rfl | omega | (simp; done) | (simp; omega) | assumption) <| .a (by rw [ph1_in hb0]) (by rw [ph1_in hb0]) <| .nil) rfl)
        · intro h12
          rw [bnd_cyc v (by omega)] at h12
          have hb0 := h12
          refine Tr.skip ?_
          refine End.blk ?_
          refine End.nxt ?_
          refine Tr.rg ?_
          refine TrL.op (ok_add rfl (fun _ => rfl) rfl (fun _ => rfl) (fun _ => by omega)) rfl rfl ?_
          refine TrL.op (ok_move rfl (fun _ => rfl)) rfl rfl ?_
          refine TrL.fin ?_
          exact End.lp (k + 1) (by first | rfl | omega | (simp; done) | (simp; omega) | assumption) (by omega) (Ent.mk (.i rfl (by first | rfl | omega | (simp; done) | (simp; omega) | assumption) <| .k rfl rfl <| .k rfl rfl <| .k rfl rfl <| .k rfl rfl <| .k rfl rfl <| .k rfl rfl <| .k rfl rfl <| .nil) (.k rfl <| .e (by rw [ph1_out hb0]) rfl <| .a (by rw [ph1_out hb0]) (by first | rfl | omega | (simp; done) | (simp; omega) | assumption) <| .a (by rw [ph1_out hb0]) (by rw [ph1_out hb0]) <| .nil) rfl)
      · intro h10
        replace h10 := Int.not_lt.1 (of_decide_eq_false h10)
        refine Tr.exit ?_
        refine Exs.thn ?_
        refine Exs.thn ?_
        refine Exs.here ?_
        exact End.cut (k) (by omega) (Ent.mk (.i rfl (by first | rfl | omega | (simp; done) | (simp; omega) | assumption) <| .k rfl rfl <| .k rfl rfl <| .k rfl rfl <| .k rfl rfl <| .k rfl rfl <| .k rfl rfl <| .k rfl rfl <| .nil) (.k rfl <| .k rfl <| .a (by first | rfl | omega | (simp; done) | (simp; omega) | assumption) (by first | rfl | omega | (simp; done) | (simp; omega) | assumption) <| .a (by first | rfl | omega | (simp; done) | (simp; omega) | assumption) (by first | rfl | omega | (simp; done) | (simp; omega) | assumption) <| .nil) rfl)
    · rintro _ rfl
      refine End.norm (S' := [⟨38, true, _, _⟩, ⟨2, true, _, _⟩, ⟨9, true, _, _⟩, ⟨10, true, _, _⟩, ⟨11, true, _, _⟩, ⟨12, true, _, _⟩, ⟨36, true, _, _⟩, ⟨37, true, _, _⟩]) (M' := [⟨10, _, _⟩, ⟨11, _, _⟩, ⟨32, _, _⟩, ⟨33, _, _⟩]) rfl rfl ?_
      refine End.nxt ?_
      refine Tr.seq ?_
      refine Tr.seq ?_
      refine Tr.rg ?_
      refine TrL.op (ok_fldP rfl (fun _ => rfl) rfl) rfl rfl ?_
      refine TrL.op (ok_ldP rfl (fun _ => rfl) rfl) rfl rfl ?_
      refine TrL.op (ok_call (fun hp => ct_cyR _ v) (.a rfl (fun _ => rfl) <| .nil)) rfl rfl ?_
      refine TrL.op (ok_lenJ rfl (fun _ => rfl)) rfl rfl ?_
      refine TrL.op (ok_move rfl (fun _ => rfl)) rfl rfl ?_
      refine TrL.fin ?_
      refine End.nxt ?_
      refine Tr.for1 (σ := Nat) [⟨10, true, _, _⟩, ⟨11, true, _, _⟩, ⟨12, true, _, _⟩, ⟨51, true, _, _⟩, ⟨52, true, _, _⟩] [] (fun k => [⟨53, true, [], kI (k : Int)⟩]) (fun k => [⟨10, [32], cBlk [kOsl 32 o.1.length]⟩, ⟨11, [33], cBlk [kOsl 33 (ph2 o m k).2.length]⟩, ⟨32, [], cArr false 4 eBool (seenB o.1.length (ph2 o m k).1) o.1.length⟩, ⟨33, [], cArr true 53 eBand (ph2 o m k).2 (ph2 o m k).2.length⟩]) (fun k => k ≤ (cyR o).length) (fun k => k = (cyR o).length) (fun k => (cyR o).length - k) (0) (Nat.zero_le _) (Ent.mk (.i rfl (by first | rfl | omega | (simp; done) | (simp; omega) | assumption) <| .k rfl rfl <| .k rfl rfl <| .k rfl rfl <| .k rfl rfl <| .k rfl rfl <| .nil) (.k rfl <| .e (by rfl) rfl <| .a (by rfl) (by first | rfl | omega | (simp; done) | (simp; omega) | assumption) <| .a (by rfl) (by first | rfl | omega | (simp; done) | (simp; omega) | assumption) <| .nil) rfl) ?_ ?_
      · intro k hR1
        refine Tr.norm (S' := [⟨53, true, _, _⟩, ⟨10, true, _, _⟩, ⟨11, true, _, _⟩, ⟨12, true, _, _⟩, ⟨51, true, _, _⟩, ⟨52, true, _, _⟩]) (M' := [⟨10, _, _⟩, ⟨11, _, _⟩, ⟨32, _, _⟩, ⟨33, _, _⟩]) rfl rfl ?_
        refine Tr.seq ?_
        refine Tr.rg ?_
        refine TrL.op (ok_lss rfl (fun _ => rfl) rfl (fun _ => rfl)) rfl rfl ?_
        refine TrL.fin ?_
        refine End.nxt ?_
        refine Tr.seq ?_
        refine Tr.cnd rfl ?_ ?_
        · intro h16
          replace h16 := of_decide_eq_true h16
          obtain ⟨hx, hrow⟩ := cyR_row v (k := k) (by omega)
          have hst := (ph2_ok (m := m) v (k := k) (by omega)).1
          have hsl := hst.len
          have hrl : 0 < (nth (cyR o) k).length := by rw [hrow]; exact rowU_lenpos v hx (i := 0)
          have hx0 : 0 ≤ nth (nth (cyR o) k) 0 := hx.1
          have hx1 : nth (nth (cyR o) k) 0 < o.1.length := hx.2
          refine Tr.skip ?_
          refine End.nxt ?_
          refine Tr.seq ?_
          refine Tr.blk ?_
          refine Tr.seq ?_
          refine Tr.rg ?_
          first | refine TrL.op (ok_idxN rfl (fun _ => rfl) rfl (fun _ => rfl) rfl (fun _ => by omega)) rfl rfl ?_ | refine TrL.op (ok_idxP rfl (fun _ => rfl) rfl (fun _ => rfl) rfl (fun _ => by omega)) rfl rfl ?_
          refine TrL.op (ok_ldP rfl (fun _ => rfl) rfl) rfl rfl ?_
          refine TrL.op (ok_assign rfl (fun _ => rfl)) rfl rfl ?_
          refine TrL.fin ?_
          refine End.nxt ?_
          refine Tr.seq ?_
          refine Tr.draw 4 mixed (by kernel_rfl) ?_
          refine RunD.op (ok_ldB rfl (fun _ => rfl) rfl) rfl rfl ?_
          refine RunD.op (ok_move rfl (fun _ => rfl)) rfl rfl ?_
          refine RunD.op (ok_idxN (i := 0) rfl (fun _ => rfl) rfl (fun _ => rfl) rfl (fun _ => by omega)) rfl rfl ?_
          refine RunD.op (ok_ldP rfl (fun _ => rfl) rfl) rfl rfl ?_
          refine RunD.z ?_
          first | refine TrL.op (ok_idxEN rfl (fun _ => rfl) rfl (fun _ => rfl) (fun _ => by omega)) rfl rfl ?_ | refine TrL.op (ok_idxE rfl (fun _ => rfl) rfl (fun _ => rfl) (fun _ => by omega)) rfl rfl ?_
          refine TrL.op (ok_ldE rfl (fun _ => rfl) rfl rfl rfl) rfl rfl ?_
          refine TrL.op (ok_not rfl (fun _ => rfl)) rfl rfl ?_
          refine TrL.fin ?_
          refine End.nxt ?_
          refine Tr.cnd rfl ?_ ?_
          · intro h18
            rw [nth_seenB' hx0 hx1] at h18
            simp only [Bool.not_eq_true', decide_eq_false_iff_not] at h18
            have hb0 := h18
            have hxm := h18
            refine Tr.rwR (s := 16) rfl hrow ?_
            refine Tr.rg ?_
            refine TrL.op (ok_move rfl (fun _ => rfl)) rfl rfl ?_
            refine TrL.op (ok_move rfl (fun _ => rfl)) rfl rfl ?_
            refine TrL.inl (res := kDet (.tuple #[])) (ks := [kRd (eL eI) (orb o.1 (nth (nth (cyR o) k) 0))]) (hds := (inferInstance : DepsOf [kRd (eL eI) (orb o.1 (nth (nth (cyR o) k) 0)), kOwn 10 0, kPtr eO o, kPtr (eFn (kClo 46 [kPtr eBool m, kPtr (eL eI) (ordV o)])) (), kOwn 11 0] _)) [10, 11, 32] Try.func49 rfl Try.ntmps49 rfl rfl (.cons rfl (fun _ => rfl) <| .nil) rfl rfl [⟨10, [32], cBlk [kOsl 32 o.1.length]⟩, ⟨11, [33], cBlk [kOsl 33 (grw o m (ph2 o m k) (nth (nth (cyR o) k) 0)).2.length]⟩, ⟨32, [], cArr false 4 eBool (seenB o.1.length (grw o m (ph2 o m k) (nth (nth (cyR o) k) 0)).1) o.1.length⟩, ⟨33, [], cArr true 53 eBand (grw o m (ph2 o m k) (nth (nth (cyR o) k) 0)).2 (grw o m (ph2 o m k) (nth (nth (cyR o) k) 0)).2.length⟩] rfl rfl rfl (fun J19 bks19 => ?_) ?_
            · skip
              refine Tr.seq ?_
              refine Tr.rg ?_
              refine TrL.op (ok_move rfl (fun _ => rfl)) rfl rfl ?_
              refine TrL.op (ok_lenJ rfl (fun _ => rfl)) rfl rfl ?_
              refine TrL.op (ok_build (fun hp => .cons rfl rfl rfl <| .nil)) rfl rfl ?_
              refine TrL.new (ok_alloc 6) rfl rfl rfl rfl ?_
              refine TrL.stB rfl rfl rfl rfl ?_
              refine TrL.fin ?_
              refine End.nxt ?_
              refine Tr.seq ?_
              refine Tr.seq ?_
              refine Tr.rg ?_
              refine TrL.op (ok_move rfl (fun _ => rfl)) rfl rfl ?_
              refine TrL.op (ok_assign rfl (fun _ => rfl)) rfl rfl ?_
              refine TrL.fin ?_
              refine End.nxt ?_
              refine Tr.growC 6 2 60 rfl (ks' := [_, _, kOsl 60 0]) rfl rfl 22 (eL eI) rfl (.cons inferInstance rfl <| .cons inferInstance rfl <| .cons inferInstance rfl <| inferInstance) ?_
              refine Tr.for1 (σ := Nat × List Int) [⟨1, true, _, _⟩, ⟨2, true, _, _⟩, ⟨3, true, _, _⟩, ⟨4, true, _, _⟩, ⟨6, true, _, _⟩, ⟨61, true, _, _⟩, ⟨62, true, _, _⟩, ⟨83, true, _, _⟩] [⟨10, _, _⟩, ⟨11, _, _⟩, ⟨33, _, _⟩] (fun (i, nx) => [⟨7, true, [], kRd (eL eI) nx⟩]) (fun (i, nx) => [⟨6, [60], cBlk [kI ((orb o.1 (nth (nth (cyR o) k) 0)).length : Int), kI 0, kOsl 60 i]⟩, ⟨60, [], cArr true 22 (eL eI) (rowsT o (nth (nth (cyR o) k) 0) i) i⟩, ⟨32, [], cArr false 4 eBool (seenB o.1.length ((ph2 o m k).1 ++ (rowsT o (nth (nth (cyR o) k) 0) i).flatten)) o.1.length⟩]) (fun (i, nx) => nx = (rowU o (nth (nth (cyR o) k) 0) i) ∧ (∀ j, 1 ≤ j → j < i → stopB o m (ph2 o m k).1 (nth (nth (cyR o) k) 0) j = false) ∧ (0 < i → (m || posR o (rowU o (nth (nth (cyR o) k) 0) i)) = false)) (fun (i, nx) => i = hgt o m (ph2 o m k).1 (nth (nth (cyR o) k) 0)) (fun (i, nx) => o.1.length + 1 - i) ((0, (rowU o (nth (nth (cyR o) k) 0) 0))) ⟨rfl, fun j a b => by omega, fun h => absurd h (by omega)⟩ (Ent.mk (.r rfl (by rfl) <| .k rfl rfl <| .k rfl rfl <| .k rfl rfl <| .k rfl rfl <| .k rfl rfl <| .k rfl rfl <| .k rfl rfl <| .k rfl rfl <| .nil) (.e (by rfl) rfl <| .a (by rfl) (by first | rfl | omega | (simp; done) | (simp; omega) | assumption) <| .a (by rw [show (rowsT o (nth (nth (cyR o) k) 0) 0).flatten = [] from rfl, List.append_nil]) (by first | rfl | omega | (simp; done) | (simp; omega) | assumption) <| .k rfl <| .k rfl <| .k rfl <| .nil) rfl) ?_ ?_
              · rintro ⟨i, _⟩ ⟨rfl, hs, hb⟩
                refine Tr.norm (S' := [⟨7, true, _, _⟩, ⟨1, true, _, _⟩, ⟨2, true, _, _⟩, ⟨3, true, _, _⟩, ⟨4, true, _, _⟩, ⟨6, true, _, _⟩, ⟨61, true, _, _⟩, ⟨62, true, _, _⟩, ⟨83, true, _, _⟩]) (M' := [⟨6, _, _⟩, ⟨60, _, _⟩, ⟨32, _, _⟩, ⟨10, _, _⟩, ⟨11, _, _⟩, ⟨33, _, _⟩]) rfl rfl ?_
                refine Tr.seq ?_
                refine Tr.seq ?_
                refine Tr.draw 4 mixed (by kernel_rfl) ?_
                have hyi := v.pU.its hx i
                have hu0 := rowU_head v hx (i := i)
                have hy0 : 0 ≤ nth (rowU o (nth (nth (cyR o) k) 0) i) 0 := by rw [hu0]; exact hyi.1
                have hy1 : nth (rowU o (nth (nth (cyR o) k) 0) i) 0 < o.1.length := by rw [hu0]; exact hyi.2
                have hul := rowU_lenpos v hx (i := i)
                refine RunD.op (ok_ldB rfl (fun _ => rfl) rfl) rfl rfl ?_
                refine RunD.op (ok_move rfl (fun _ => rfl)) rfl rfl ?_
                refine RunD.op (ok_idxN (i := 0) rfl (fun _ => rfl) rfl (fun _ => rfl) rfl (fun _ => by omega)) rfl rfl ?_
                refine RunD.op (ok_ldP rfl (fun _ => rfl) rfl) rfl rfl ?_
                refine RunD.z ?_
                first | refine TrL.op (ok_idxEN rfl (fun _ => rfl) rfl (fun _ => rfl) (fun _ => by omega)) rfl rfl ?_ | refine TrL.op (ok_idxE rfl (fun _ => rfl) rfl (fun _ => rfl) (fun _ => by omega)) rfl rfl ?_
                refine TrL.op (ok_ldE rfl (fun _ => rfl) rfl rfl rfl) rfl rfl ?_
                refine TrL.op (ok_not rfl (fun _ => rfl)) rfl rfl ?_
                refine TrL.fin ?_
                refine End.nxt ?_
                refine Tr.cnd rfl ?_ ?_
                · intro h2
                  rw [nth_seenB' hy0 hy1, hu0] at h2
                  simp only [Bool.not_eq_true', decide_eq_false_iff_not] at h2
                  have hs1 := GS.step hs hb h2
                  have hfw := hst.gs.few hx hxm hs1
                  have hul2 := rowU_le v hx (i := i)
                  refine Tr.skip ?_
                  refine End.nxt ?_
                  refine Tr.blk ?_
                  refine Tr.seq ?_
                  refine Tr.seq ?_
                  refine Tr.rg ?_
                  refine TrL.op (ok_move rfl (fun _ => rfl)) rfl rfl ?_
                  refine TrL.op (ok_lenJ rfl (fun _ => rfl)) rfl rfl ?_
                  refine TrL.op (ok_move rfl (fun _ => rfl)) rfl rfl ?_
                  refine TrL.fin ?_
                  refine End.nxt ?_
                  refine Tr.for1 (σ := Nat) [⟨1, true, _, _⟩, ⟨2, true, _, _⟩, ⟨3, true, _, _⟩, ⟨4, true, _, _⟩, ⟨6, true, _, _⟩, ⟨7, true, _, _⟩, ⟨21, true, _, _⟩, ⟨22, true, _, _⟩, ⟨61, true, _, _⟩, ⟨62, true, _, _⟩, ⟨83, true, _, _⟩] [⟨10, _, _⟩, ⟨11, _, _⟩, ⟨33, _, _⟩, ⟨6, _, _⟩, ⟨60, _, _⟩] (fun j => [⟨23, true, [], kI (j : Int)⟩]) (fun j => [⟨32, [], cArr false 4 eBool (seenB o.1.length ((ph2 o m k).1 ++ (rowsT o (nth (nth (cyR o) k) 0) i).flatten ++ (rowU o (nth (nth (cyR o) k) 0) i).take j)) o.1.length⟩]) (fun j => j ≤ (rowU o (nth (nth (cyR o) k) 0) i).length) (fun j => j = (rowU o (nth (nth (cyR o) k) 0) i).length) (fun j => (rowU o (nth (nth (cyR o) k) 0) i).length - j) (0) (Nat.zero_le _) (Ent.mk (.i rfl (by first | rfl | omega | (simp; done) | (simp; omega) | assumption) <| .k rfl rfl <| .k rfl rfl <| .k rfl rfl <| .k rfl rfl <| .k rfl rfl <| .k rfl rfl <| .k rfl rfl <| .k rfl rfl <| .k rfl rfl <| .k rfl rfl <| .k rfl rfl <| .nil) (.a (by rw [List.take_zero, List.append_nil]) (by first | rfl | omega | (simp; done) | (simp; omega) | assumption) <| .k rfl <| .k rfl <| .k rfl <| .k rfl <| .k rfl <| .nil) rfl) ?_ ?_
                  · intro j hR1
                    refine Tr.norm (S' := [⟨23, true, _, _⟩, ⟨1, true, _, _⟩, ⟨2, true, _, _⟩, ⟨3, true, _, _⟩, ⟨4, true, _, _⟩, ⟨6, true, _, _⟩, ⟨7, true, _, _⟩, ⟨21, true, _, _⟩, ⟨22, true, _, _⟩, ⟨61, true, _, _⟩, ⟨62, true, _, _⟩, ⟨83, true, _, _⟩]) (M' := [⟨32, _, _⟩, ⟨10, _, _⟩, ⟨11, _, _⟩, ⟨33, _, _⟩, ⟨6, _, _⟩, ⟨60, _, _⟩]) rfl rfl ?_
                    refine Tr.seq ?_
                    refine Tr.rg ?_
                    refine TrL.op (ok_lss rfl (fun _ => rfl) rfl (fun _ => rfl)) rfl rfl ?_
                    refine TrL.fin ?_
                    refine End.nxt ?_
                    refine Tr.seq ?_
                    refine Tr.cnd rfl ?_ ?_
                    · intro h4
                      replace h4 := of_decide_eq_true h4
                      refine Tr.skip ?_
                      refine End.nxt ?_
                      refine Tr.seq ?_
                      refine Tr.blk ?_
                      refine Tr.seq ?_
                      refine Tr.rg ?_
                      first | refine TrL.op (ok_idxN rfl (fun _ => rfl) rfl (fun _ => rfl) rfl (fun _ => by omega)) rfl rfl ?_ | refine TrL.op (ok_idxP rfl (fun _ => rfl) rfl (fun _ => rfl) rfl (fun _ => by omega)) rfl rfl ?_
                      refine TrL.op (ok_ldP rfl (fun _ => rfl) rfl) rfl rfl ?_
                      refine TrL.op (ok_assign rfl (fun _ => rfl)) rfl rfl ?_
                      refine TrL.fin ?_
                      refine End.nxt ?_
                      refine Tr.rg ?_
                      have hje := rowU_sq v hx _ (nth_mem (xs := (rowU o (nth (nth (cyR o) k) 0) i)) (i := j) (by omega))
                      have hje0 := hje.1
                      have hje1 := hje.2
                      refine TrL.op (ok_ldB rfl (fun _ => rfl) rfl) rfl rfl ?_
                      refine TrL.op (ok_move rfl (fun _ => rfl)) rfl rfl ?_
                      first | refine TrL.op (ok_idxEN rfl (fun _ => rfl) rfl (fun _ => rfl) (fun _ => by omega)) rfl rfl ?_ | refine TrL.op (ok_idxE rfl (fun _ => rfl) rfl (fun _ => rfl) (fun _ => by omega)) rfl rfl ?_
                      refine TrL.stE rfl rfl rfl rfl rfl ?_
                      refine TrL.fin ?_
                      refine End.blk ?_
                      refine End.nxt ?_
                      refine Tr.rg ?_
                      refine TrL.op (ok_add rfl (fun _ => rfl) rfl (fun _ => rfl) (fun _ => by omega)) rfl rfl ?_
                      refine TrL.op (ok_move rfl (fun _ => rfl)) rfl rfl ?_
                      refine TrL.fin ?_
                      exact End.lp (j + 1) (by first | rfl | omega | (simp; done) | (simp; omega) | assumption) (by omega) (Ent.mk (.i rfl (by first | rfl | omega | (simp; done) | (simp; omega) | assumption) <| .k rfl rfl <| .k rfl rfl <| .k rfl rfl <| .k rfl rfl <| .k rfl rfl <| .k rfl rfl <| .k rfl rfl <| .k rfl rfl <| .k rfl rfl <| .k rfl rfl <| .k rfl rfl <| .nil) (.a (by rw [take_succ_nth (by omega), seenB_set hje0, List.append_assoc]) (by first | rfl | omega | (simp; done) | (simp; omega) | assumption) <| .k rfl <| .k rfl <| .k rfl <| .k rfl <| .k rfl <| .nil) rfl)
                    · intro h4
                      replace h4 := Int.not_lt.1 (of_decide_eq_false h4)
                      refine Tr.exit ?_
                      refine Exs.thn ?_
                      refine Exs.thn ?_
                      refine Exs.here ?_
                      exact End.cut (j) (by omega) (Ent.mk (.i rfl (by first | rfl | omega | (simp; done) | (simp; omega) | assumption) <| .k rfl rfl <| .k rfl rfl <| .k rfl rfl <| .k rfl rfl <| .k rfl rfl <| .k rfl rfl <| .k rfl rfl <| .k rfl rfl <| .k rfl rfl <| .k rfl rfl <| .k rfl rfl <| .nil) (.a (by first | rfl | omega | (simp; done) | (simp; omega) | assumption) (by first | rfl | omega | (simp; done) | (simp; omega) | assumption) <| .k rfl <| .k rfl <| .k rfl <| .k rfl <| .k rfl <| .nil) rfl)
                  · rintro _ rfl
                    refine End.norm (S' := [⟨23, true, _, _⟩, ⟨1, true, _, _⟩, ⟨2, true, _, _⟩, ⟨3, true, _, _⟩, ⟨4, true, _, _⟩, ⟨6, true, _, _⟩, ⟨7, true, _, _⟩, ⟨21, true, _, _⟩, ⟨22, true, _, _⟩, ⟨61, true, _, _⟩, ⟨62, true, _, _⟩, ⟨83, true, _, _⟩]) (M' := [⟨32, _, _⟩, ⟨10, _, _⟩, ⟨11, _, _⟩, ⟨33, _, _⟩, ⟨6, _, _⟩, ⟨60, _, _⟩]) rfl rfl ?_
                    refine End.nxt ?_
                    refine Tr.seq ?_
                    refine Tr.rg ?_
                    refine TrL.op (ok_fldO rfl (fun _ => rfl)) rfl rfl ?_
                    refine TrL.op (ok_ldB rfl (fun _ => rfl) rfl) rfl rfl ?_
                    refine TrL.op (ok_move rfl (fun _ => rfl)) rfl rfl ?_
                    refine TrL.new (ok_bsl (eL eI) 34 (fun hp => .cons rfl <| .nil) rfl rfl rfl rfl) rfl rfl rfl rfl ?_
                    refine TrL.wkC 6 (.k <| .k <| .any <| .nil) rfl ?_
                    refine TrL.app rfl rfl rfl rfl rfl rfl rfl rfl (by first | omega | (simp only [List.length_cons, List.length_nil]; omega)) (by first | omega | (simp only [List.length_cons, List.length_nil]; omega)) ?_
                    refine TrL.norm (S' := [⟨_, _, _, _⟩, ⟨_, _, _, _⟩, ⟨_, _, _, _⟩, ⟨_, _, _, _⟩, ⟨_, _, _, _⟩, ⟨_, _, _, _⟩, ⟨_, _, _, _⟩, ⟨_, _, _, _⟩, ⟨_, _, _, _⟩, ⟨_, _, _, _⟩, ⟨_, _, _, _⟩, ⟨_, _, _, _⟩, ⟨_, _, _, _⟩, ⟨_, _, _, _⟩, ⟨_, _, _, _⟩, ⟨_, _, _, _⟩, ⟨_, _, _, _⟩]) rfl rfl ?_
                    refine TrL.op (ok_fldO rfl (fun _ => rfl)) rfl rfl ?_
                    refine TrL.stB rfl rfl rfl rfl ?_
                    refine TrL.fin ?_
                    refine End.nxt ?_
                    refine Tr.seq ?_
                    refine Tr.rg ?_
                    refine TrL.op (ok_ldPA rfl (fun _ => rfl) rfl rfl) rfl rfl ?_
                    refine TrL.op (ok_move rfl (fun _ => rfl)) rfl rfl ?_
                    refine TrL.op (ok_call (fun hp => ct_above o (rowU o (nth (nth (cyR o) k) 0) i) (fun y hy => by have h := rowU_sq v hx y hy; exact ⟨h.1, by have := v.len; have := h.2; omega⟩) (by omega)) (.a rfl (fun _ => rfl) <| .a rfl (fun _ => rfl) <| .nil)) rfl rfl ?_
                    refine TrL.op (ok_assign rfl (fun _ => rfl)) rfl rfl ?_
                    refine TrL.fin ?_
                    refine End.nxt ?_
                    refine Tr.seq ?_
                    refine Tr.rg ?_
                    refine TrL.op (ok_ldP rfl (fun _ => rfl) rfl) rfl rfl ?_
                    refine TrL.op (ok_move rfl (fun _ => rfl)) rfl rfl ?_
                    refine TrL.op (ok_callK rfl (fun _ => rfl) (fun hp => ct_cyl1 (abvL o (rowU o (nth (nth (cyR o) k) 0) i)) m (ordV o) (fun y hy => by have h := abv_sq v (rowU_sq v hx) y hy; exact ⟨h.1, by rw [hoL]; exact h.2⟩)) (.a rfl (fun _ => rfl) <| .nil)) rfl rfl ?_
                    refine TrL.fin ?_
                    refine End.nxt ?_
                    refine Tr.cnd rfl ?_ ?_
                    · intro h10
                      rw [bnd_row v hx] at h10
                      refine Tr.exit ?_
                      refine Exs.out rfl ?_
                      refine Exs.thn ?_
                      refine Exs.here ?_
                      exact End.cut ((i + 1, abvL o (rowU o (nth (nth (cyR o) k) 0) i))) (hst.gs.end1 hx hxm hs1 h10) (Ent.mk (.r rfl (by first | rfl | omega | (simp; done) | (simp; omega) | assumption) <| .k rfl rfl <| .k rfl rfl <| .k rfl rfl <| .k rfl rfl <| .k rfl rfl <| .k rfl rfl <| .k rfl rfl <| .k rfl rfl <| .nil) (.e (by rfl) rfl <| .a (by rw [rowsT_succ]) (by first | rfl | omega | (simp; done) | (simp; omega) | assumption) <| .a (by rw [List.take_length, rowsT_flat, List.append_assoc]) (by first | rfl | omega | (simp; done) | (simp; omega) | assumption) <| .k rfl <| .k rfl <| .k rfl <| .nil) rfl)
                    · intro h10
                      rw [bnd_row v hx] at h10
                      have hnx := rowU_next v hx (by rw [rowU_pos v hx]; exact (Bool.or_eq_false_iff.1 h10).2)
                      refine Tr.skip ?_
                      refine End.blk ?_
                      exact End.lp ((i + 1, (rowU o (nth (nth (cyR o) k) 0) (i + 1)))) ⟨rfl, hs1, fun _ => h10⟩ (show o.1.length + 1 - (i + 1) < o.1.length + 1 - i by omega) (Ent.mk (.r rfl hnx <| .k rfl rfl <| .k rfl rfl <| .k rfl rfl <| .k rfl rfl <| .k rfl rfl <| .k rfl rfl <| .k rfl rfl <| .k rfl rfl <| .nil) (.e (by rfl) rfl <| .a (by rw [rowsT_succ]) (by first | rfl | omega | (simp; done) | (simp; omega) | assumption) <| .a (by rw [List.take_length, rowsT_flat, List.append_assoc]) (by first | rfl | omega | (simp; done) | (simp; omega) | assumption) <| .k rfl <| .k rfl <| .k rfl <| .nil) rfl)
                · intro h2
                  rw [nth_seenB' hy0 hy1, hu0] at h2
                  simp only [Bool.not_eq_false', decide_eq_true_eq] at h2
                  refine Tr.exit ?_
                  refine Exs.thn ?_
                  refine Exs.thn ?_
                  refine Exs.here ?_
                  exact End.cut ((i, (rowU o (nth (nth (cyR o) k) 0) i))) (hst.gs.end0 hx hxm hs h2) (Ent.mk (.r rfl (by first | rfl | omega | (simp; done) | (simp; omega) | assumption) <| .k rfl rfl <| .k rfl rfl <| .k rfl rfl <| .k rfl rfl <| .k rfl rfl <| .k rfl rfl <| .k rfl rfl <| .k rfl rfl <| .nil) (.k rfl <| .a (by first | rfl | omega | (simp; done) | (simp; omega) | assumption) (by first | rfl | omega | (simp; done) | (simp; omega) | assumption) <| .a (by first | rfl | omega | (simp; done) | (simp; omega) | assumption) (by first | rfl | omega | (simp; done) | (simp; omega) | assumption) <| .k rfl <| .k rfl <| .k rfl <| .nil) rfl)
              · rintro ⟨_, nx⟩ rfl
                refine End.norm (S' := [⟨7, true, _, _⟩, ⟨1, true, _, _⟩, ⟨2, true, _, _⟩, ⟨3, true, _, _⟩, ⟨4, true, _, _⟩, ⟨6, true, _, _⟩, ⟨61, true, _, _⟩, ⟨62, true, _, _⟩, ⟨83, true, _, _⟩]) (M' := [⟨6, _, _⟩, ⟨60, _, _⟩, ⟨32, _, _⟩, ⟨10, _, _⟩, ⟨11, _, _⟩, ⟨33, _, _⟩]) rfl rfl ?_
                have hhl := hst.gs.le hx hxm (m := m)
                refine End.nxt ?_
                refine Tr.seq ?_
                refine Tr.rg ?_
                refine TrL.op (ok_fldO rfl (fun _ => rfl)) rfl rfl ?_
                refine TrL.op (ok_ldB rfl (fun _ => rfl) rfl) rfl rfl ?_
                refine TrL.op (ok_lenO rfl (fun _ => rfl)) rfl rfl ?_
                refine TrL.op (ok_fldO rfl (fun _ => rfl)) rfl rfl ?_
                refine TrL.stB rfl rfl rfl rfl ?_
                refine TrL.fin ?_
                refine End.nxt ?_
                refine Tr.frzC 60 6 (by simp only [lenMax]; omega) rfl rfl ?_
                refine Tr.rg ?_
                refine TrL.op (ok_ldB rfl (fun _ => rfl) rfl) rfl rfl ?_
                refine TrL.op (ok_ldBS rfl (fun _ => rfl)) rfl rfl ?_
                refine TrL.new (ok_bsl eBand 49 (fun hp => .cons rfl <| .nil) rfl rfl rfl rfl) rfl rfl rfl rfl ?_
                refine TrL.wkC 11 (.any <| .nil) rfl ?_
                refine TrL.app rfl rfl rfl rfl rfl rfl rfl rfl (by first | omega | (simp only [List.length_cons, List.length_nil]; omega)) (by first | omega | (simp only [List.length_cons, List.length_nil]; omega)) ?_
                refine TrL.norm (S' := [⟨_, _, _, _⟩, ⟨_, _, _, _⟩, ⟨_, _, _, _⟩, ⟨_, _, _, _⟩, ⟨_, _, _, _⟩, ⟨_, _, _, _⟩, ⟨_, _, _, _⟩, ⟨_, _, _, _⟩, ⟨_, _, _, _⟩, ⟨_, _, _, _⟩, ⟨_, _, _, _⟩, ⟨_, _, _, _⟩, ⟨_, _, _, _⟩, ⟨_, _, _, _⟩, ⟨_, _, _, _⟩, ⟨_, _, _, _⟩, ⟨_, _, _, _⟩]) rfl rfl ?_
                refine TrL.stB rfl rfl rfl rfl ?_
                refine TrL.fin ?_
                exact End.inlE (n := 51) (bks := bks19) rfl (Ent.mk (.k rfl rfl <| .k rfl rfl <| .k rfl rfl <| .nil) (.k rfl <| .e (by rw [grw2]; rfl) rfl <| .a (by unfold grw; rfl) (by first | rfl | omega | (simp; done) | (simp; omega) | assumption) <| .a (by unfold grw bandG; rw [orb_len]) grw2.symm <| .nil) rfl) (.cons rfl <| .cons rfl <| .cons rfl <| .nil)
            refine TrL.norm (S' := [⟨_, _, _, _⟩, ⟨_, _, _, _⟩, ⟨_, _, _, _⟩, ⟨_, _, _, _⟩, ⟨_, _, _, _⟩, ⟨_, _, _, _⟩, ⟨_, _, _, _⟩, ⟨_, _, _, _⟩, ⟨_, _, _, _⟩, ⟨_, _, _, _⟩, ⟨_, _, _, _⟩, ⟨_, _, _, _⟩, ⟨_, _, _, _⟩, ⟨_, _, _, _⟩, ⟨_, _, _, _⟩, ⟨_, _, _, _⟩, ⟨_, _, _, _⟩, ⟨_, _, _, _⟩, ⟨_, _, _, _⟩, ⟨_, _, _, _⟩, ⟨_, _, _, _⟩]) rfl rfl ?_
            refine TrL.fin ?_
            refine End.blk ?_
            refine End.nxt ?_
            refine Tr.rg ?_
            refine TrL.op (ok_add rfl (fun _ => rfl) rfl (fun _ => rfl) (fun _ => by omega)) rfl rfl ?_
            refine TrL.op (ok_move rfl (fun _ => rfl)) rfl rfl ?_
            refine TrL.fin ?_
            exact End.lp (k + 1) (by first | rfl | omega | (simp; done) | (simp; omega) | assumption) (by omega) (Ent.mk (.i rfl (by first | rfl | omega | (simp; done) | (simp; omega) | assumption) <| .k rfl rfl <| .k rfl rfl <| .k rfl rfl <| .k rfl rfl <| .k rfl rfl <| .nil) (.k rfl <| .e (by rw [ph2_in hb0]) rfl <| .a (by rw [ph2_in hb0]) (by first | rfl | omega | (simp; done) | (simp; omega) | assumption) <| .a (by rw [ph2_in hb0]) (by rw [ph2_in hb0]) <| .nil) rfl)
          · intro h18
            rw [nth_seenB' hx0 hx1] at h18
            simp only [Bool.not_eq_false', decide_eq_true_eq] at h18
            have hb0 := h18
            refine Tr.skip ?_
            refine End.blk ?_
            refine End.nxt ?_
            refine Tr.rg ?_
            refine TrL.op (ok_add rfl (fun _ => rfl) rfl (fun _ => rfl) (fun _ => by omega)) rfl rfl ?_
            refine TrL.op (ok_move rfl (fun _ => rfl)) rfl rfl ?_
            refine TrL.fin ?_
            exact End.lp (k + 1) (by first | rfl | omega | (simp; done) | (simp; omega) | assumption) (by omega) (Ent.mk (.i rfl (by first | rfl | omega | (simp; done) | (simp; omega) | assumption) <| .k rfl rfl <| .k rfl rfl <| .k rfl rfl <| .k rfl rfl <| .k rfl rfl <| .nil) (.k rfl <| .e (by rw [ph2_out hb0]) rfl <| .a (by rw [ph2_out hb0]) (by first | rfl | omega | (simp; done) | (simp; omega) | assumption) <| .a (by rw [ph2_out hb0]) (by rw [ph2_out hb0]) <| .nil) rfl)
        · intro h16
          replace h16 := Int.not_lt.1 (of_decide_eq_false h16)
          refine Tr.exit ?_
          refine Exs.thn ?_
          refine Exs.thn ?_
          refine Exs.here ?_
          exact End.cut (k) (by omega) (Ent.mk (.i rfl (by first | rfl | omega | (simp; done) | (simp; omega) | assumption) <| .k rfl rfl <| .k rfl rfl <| .k rfl rfl <| .k rfl rfl <| .k rfl rfl <| .nil) (.k rfl <| .k rfl <| .a (by first | rfl | omega | (simp; done) | (simp; omega) | assumption) (by first | rfl | omega | (simp; done) | (simp; omega) | assumption) <| .a (by first | rfl | omega | (simp; done) | (simp; omega) | assumption) (by first | rfl | omega | (simp; done) | (simp; omega) | assumption) <| .nil) rfl)
      · rintro _ rfl
        refine End.norm (S' := [⟨53, true, _, _⟩, ⟨10, true, _, _⟩, ⟨11, true, _, _⟩, ⟨12, true, _, _⟩, ⟨51, true, _, _⟩, ⟨52, true, _, _⟩]) (M' := [⟨10, _, _⟩, ⟨11, _, _⟩, ⟨32, _, _⟩, ⟨33, _, _⟩]) rfl rfl ?_
        have hpp : 0 < (ph2 o m (cyR o).length).2.length ∧ (ph2 o m (cyR o).length).2.length ≤ o.1.length := phE_pos v (m := m)
        refine End.nxt ?_
        refine Tr.seq ?_
        refine Tr.rg ?_
        refine TrL.new (ok_alloc 17) rfl rfl rfl rfl ?_
        refine TrL.stB rfl rfl rfl rfl ?_
        refine TrL.fin ?_
        refine End.nxt ?_
        refine Tr.seq ?_
        refine Tr.frzB 17 [17] (eFn (kDet (.func (.func 51) #[] #[]))) ⟨rfl, trivial⟩ rfl ?_
        refine Tr.norm (S' := [⟨_, _, _, _⟩, ⟨_, _, _, _⟩, ⟨_, _, _, _⟩, ⟨_, _, _, _⟩, ⟨_, _, _, _⟩, ⟨_, _, _, _⟩, ⟨_, _, _, _⟩, ⟨_, _, _, _⟩]) (M' := [⟨_, _, _⟩, ⟨_, _, _⟩, ⟨_, _, _⟩, ⟨_, _, _⟩]) rfl rfl ?_
        refine Tr.rg ?_
        refine TrL.op (ok_ldB rfl (fun _ => rfl) rfl) rfl rfl ?_
        refine TrL.op (ok_clo (ks := [kPtr (eFn (kDet (.func (.func 51) #[] #[]))) ()]) (.cons rfl (fun _ => rfl) <| .nil)) rfl rfl ?_
        refine TrL.mut (ct_srtB o m v) rfl (.a rfl (fun _ => rfl) <| .nil) (fun _ _ _ _ h => h) (fun _ _ h => by have h2 : _ = 0 := h.2; omega) (fun h => h) rfl ?_
        refine TrL.fin ?_
        refine End.nxt ?_
        refine Tr.seq ?_
        refine Tr.rg ?_
        refine TrL.op (ok_ldB rfl (fun _ => rfl) rfl) rfl rfl ?_
        refine TrL.op (ok_assign rfl (fun _ => rfl)) rfl rfl ?_
        refine TrL.op (ok_assign rfl (fun _ => rfl)) rfl rfl ?_
        refine TrL.fin ?_
        refine End.nxt ?_
        refine Tr.ent (S' := [⟨4, true, _, _⟩, ⟨5, true, _, _⟩]) (M' := [⟨33, _, _⟩]) (Ent.mk (.k rfl rfl <| .k rfl rfl <| .nil) (.k rfl <| .nil) rfl) ?_
        refine Tr.frz 33 [4] ⟨rfl, trivial⟩ (by simp only [lenMax]; omega) rfl ?_
        refine Tr.ret ?_
        exact Rts.res (fn := Try.f21) (ts := [4, 5]) rfl rfl (.r rfl (by rw [if_pos h2]) <| .i rfl h2.symm <| .nil)

end Go.Fl

/- How many cycles a commutator has: as many as elements, but for an even number. Plain Lean, no program in sight. -/
namespace Go.Fl
def sw (a b x : Int) : Int := if x = a then b else if x = b then a else x
theorem sw_sw {a b x : Int} : sw a b (sw a b x) = x := by
  unfold sw
  by_cases h1 : x = a
  · subst h1
    by_cases h2 : b = x
    · subst h2; simp
    · simp [h2]
  · by_cases h2 : x = b
    · subst h2; simp [h1]
    · simp [h1, h2]
theorem sw_sq {n : Nat} {a b x : Int} (ha : Sq n a) (hb : Sq n b) (hx : Sq n x) : Sq n (sw a b x) := by
  unfold sw
  split
  · exact hb
  · split
    · exact ha
    · exact hx
theorem sw_ne {a b x : Int} (h1 : x ≠ a) (h2 : x ≠ b) : sw a b x = x := by unfold sw; rw [if_neg h1, if_neg h2]
theorem sw_a {a b : Int} : sw a b a = b := if_pos rfl
theorem sw_b {a b : Int} (h : a ≠ b) : sw a b b = a := by unfold sw; rw [if_neg (fun e => h e.symm), if_pos rfl]
/-- The list of a function. -/
def fnL (n : Nat) (f : Int → Int) : List Int := tab n fun i => f i
theorem ap_fnL {n : Nat} {f : Int → Int} {x : Int} (hx : Sq n x) : ap (fnL n f) x = f x := by
  unfold ap fnL
  have h0 := hx.1
  have h1 := hx.2
  rw [nth_tab (by omega), Int.toNat_of_nonneg h0]
theorem fnL_perm {n : Nat} {f : Int → Int} (hs : ∀ x, Sq n x → Sq n (f x)) (hi : ∀ x y, Sq n x → Sq n y → f x = f y → x = y) : Perm (fnL n f) n := by
  have hl : (fnL n f).length = n := tab_len
  have hn : ∀ {i : Nat}, i < n → nth (fnL n f) i = f i := fun h => nth_tab h
  refine ⟨nodup_of_nth fun i j h1 h2 e => ?_, fun i h => ?_, hl⟩
  · rw [hl] at h1 h2
    rw [hn h1, hn h2] at e
    have := hi _ _ (Sq.nat h1) (Sq.nat h2) e
    omega
  · rw [hl] at h
    rw [hn h]
    exact hs _ (Sq.nat h)
theorem fnL_ap {n : Nat} {p : List Int} (h : p.length = n) : fnL n (ap p) = p := by
  refine ext_nth (by rw [fnL, tab_len, h]) fun i hi => ?_
  rw [fnL, tab_len] at hi
  rw [fnL, nth_tab hi]; rfl
theorem fnL_congr {n : Nat} {f g : Int → Int} (h : ∀ x, Sq n x → f x = g x) : fnL n f = fnL n g := tab_congr fun _ hi => h _ (Sq.nat hi)
/-! ### 1. Counting least elements -/
def cn (p : List Int) (n : Nat) : Nat := (List.range n).countP (low p)
theorem cn_eq {p : List Int} {n : Nat} (P : Perm p n) : (cycs p n).length = cn p n := by
  rw [(P.cycsP (Nat.le_refl _)).2, List.length_map, cn, List.countP_eq_length_filter]
theorem countP_but {f g : Nat → Bool} {j : Nat} (hf : f j = true) (hg : g j = false) : ∀ {n : Nat}, j < n → (∀ i, i < n → i ≠ j → f i = g i) → (List.range n).countP f = (List.range n).countP g + 1
  | 0, h, _ => absurd h (by omega)
  | n + 1, h, he => by
    rw [List.range_succ, List.countP_append, List.countP_append]
    by_cases e : j = n
    · subst e
      have : (List.range j).countP f = (List.range j).countP g := List.countP_congr fun i hi => by
        have hi' := List.mem_range.1 hi
        rw [he i (by omega) (by omega)]
      rw [this]
      simp [hf, hg]
    · have := countP_but hf hg (n := n) (by omega) fun _ hi hne => he _ (by omega) hne
      rw [this]
      have e2 : [n].countP f = [n].countP g := by simp [List.countP_cons, he n (by omega) (by omega)]
      omega
/-- The least element of an orbit. -/
theorem least_ex {p : List Int} {n : Nat} (P : Perm p n) {x : Int} (hx : Sq n x) : ∃ i : Nat, i < n ∧ (i : Int) ∈ orb p x ∧ low p i = true ∧ ∀ y ∈ orb p x, (i : Int) ≤ y := by
  have key : ∀ m : Nat, (∃ i : Nat, i < m ∧ (i : Int) ∈ orb p x) → ∃ i : Nat, (i : Int) ∈ orb p x ∧ ∀ j : Nat, j < i → (j : Int) ∉ orb p x := by
    intro m
    induction m with
    | zero => rintro ⟨i, h, _⟩; omega
    | succ m ih =>
      rintro ⟨i, h1, h2⟩
      by_cases e : ∃ i : Nat, i < m ∧ (i : Int) ∈ orb p x
      · exact ih e
      · exact ⟨i, h2, fun j hj hm => e ⟨j, by omega, hm⟩⟩
  have h0 := hx.1
  have h1 := hx.2
  obtain ⟨i, h2, h3⟩ := key n ⟨x.toNat, by omega, by rw [Int.toNat_of_nonneg h0]; exact P.orb_self hx⟩
  have his := P.orb_rng hx h2
  have hlt := his.2
  refine ⟨i, by omega, h2, (P.low_iff (by omega)).2 fun j hj hm => ?_, fun y hy => ?_⟩
  · have hjs : Sq n (j : Int) := Sq.nat (by omega)
    exact h3 j hj (P.orb_trans hx h2 (P.orb_symm hjs hm))
  · have hys := P.orb_rng hx hy
    have hy0 := hys.1
    refine Classical.byContradiction fun hlt => h3 y.toNat (by omega) ?_
    rwa [Int.toNat_of_nonneg hy0]
theorem low_mem {p : List Int} {i : Nat} : low p i = true ↔ ∀ y ∈ orb p i, (i : Int) ≤ y := by
  unfold low; rw [List.all_eq_true]
  exact ⟨fun h y hy => of_decide_eq_true (h y hy), fun h y hy => decide_eq_true (h y hy)⟩
/-- Within an orbit that has neither, both go alike. -/
theorem sw_it {p q : List Int} {n : Nat} (P : Perm p n) {a b : Int} (hq : ∀ x, Sq n x → ap q x = sw a b (ap p x)) {x : Int} (hx : Sq n x) : ∀ i, (∀ j, 1 ≤ j → j ≤ i → it p j x ≠ a ∧ it p j x ≠ b) → it q i x = it p i x
  | 0, _ => rfl
  | i + 1, h => by
    have ih := sw_it P hq hx i fun j h1 h2 => h j h1 (by omega)
    have h1 := h (i + 1) (by omega) (Nat.le_refl _)
    show ap q (it q i x) = _
    rw [ih, hq _ (P.its hx i)]
    exact sw_ne h1.1 h1.2
theorem sw_out {p q : List Int} {n : Nat} (P : Perm p n) (Q : Perm q n) {a b : Int} (hq : ∀ x, Sq n x → ap q x = sw a b (ap p x)) {x : Int} (hx : Sq n x) (h1 : a ∉ orb p x) (h2 : b ∉ orb p x) (y : Int) : y ∈ orb q x ↔ y ∈ orb p x := by
  have key : ∀ i, it q i x = it p i x := fun i => sw_it P hq hx i fun j _ _ => ⟨fun e => h1 (e ▸ (P.mem_orb hx).2 ⟨j, rfl⟩), fun e => h2 (e ▸ (P.mem_orb hx).2 ⟨j, rfl⟩)⟩
  rw [P.mem_orb hx, Q.mem_orb hx]
  exact ⟨fun ⟨i, e⟩ => ⟨i, e.trans (key i)⟩, fun ⟨i, e⟩ => ⟨i, e.trans (key i).symm⟩⟩
section
variable {p q : List Int} {n : Nat} (P : Perm p n) (Q : Perm q n) {a b : Int} (ha : Sq n a) (hb : Sq n b) (hab : a ≠ b) (hq : ∀ x, Sq n x → ap q x = sw a b (ap p x))
include P Q ha hb hab hq
/-- Where a and b lie in different orbits, both become one. -/
theorem sw_one (hd : b ∉ orb p a) {c : Int} (hc : c = a ∨ c = b) {y : Int} (hy : y ∈ orb p c) : y ∈ orb q c := by
  have hcs : Sq n c := by rcases hc with rfl | rfl; exact ha; exact hb
  obtain ⟨i, hi, rfl⟩ := mem_nth hy
  rw [orb_len] at hi
  rw [nth_orb hi]
  obtain ⟨_, _, _, h4⟩ := P.pers hcs
  have hd' : a ∉ orb p b := fun h => hd (P.orb_symm hb h)
  refine (Q.mem_orb hcs).2 ⟨i, (sw_it P hq hcs i fun j h1 h2 => ?_).symm⟩
  have hj := h4 j h1 (by omega)
  have hm : it p j c ∈ orb p c := (P.mem_orb hcs).2 ⟨j, rfl⟩
  rcases hc with rfl | rfl
  · exact ⟨hj, fun e => hd (e ▸ hm)⟩
  · exact ⟨fun e => hd' (e ▸ hm), hj⟩
theorem sw_ab (hd : b ∉ orb p a) : b ∈ orb q a := by
  obtain ⟨h1, h2, _, _⟩ := P.pers ha
  have hz : it p (per p a - 1) a ∈ orb q a := sw_one P Q ha hb hab hq hd (.inl rfl) ((P.mem_orb ha).2 ⟨_, rfl⟩)
  have := Q.orb_ap ha hz
  rw [hq _ (P.its ha _)] at this
  have e : ap p (it p (per p a - 1) a) = a := by
    have : it p (per p a - 1 + 1) a = a := by rw [Nat.sub_add_cancel h2]; exact h1
    exact this
  rw [e, sw_a] at this
  exact this
theorem sw_union (hd : b ∉ orb p a) {x : Int} (hx : x ∈ orb p a ∨ x ∈ orb p b) (y : Int) : y ∈ orb q x ↔ y ∈ orb p a ∨ y ∈ orb p b := by
  have hab' := sw_ab P Q ha hb hab hq hd
  have hin : ∀ z, z ∈ orb p a ∨ z ∈ orb p b → z ∈ orb q a := fun z hz => by
    rcases hz with h | h
    · exact sw_one P Q ha hb hab hq hd (.inl rfl) h
    · exact Q.orb_trans ha hab' (sw_one P Q ha hb hab hq hd (.inr rfl) h)
  have hxs : Sq n x := by rcases hx with h | h; exact P.orb_rng ha h; exact P.orb_rng hb h
  have hcl : ∀ z, Sq n z → (z ∈ orb p a ∨ z ∈ orb p b) → (ap q z ∈ orb p a ∨ ap q z ∈ orb p b) := fun z hz h => by
    rw [hq z hz]
    by_cases e1 : ap p z = a
    · rw [e1, sw_a]; exact .inr (P.orb_self hb)
    · by_cases e2 : ap p z = b
      · rw [e2, sw_b hab]; exact .inl (P.orb_self ha)
      · rw [sw_ne e1 e2]
        exact h.imp (fun h => P.orb_ap ha h) (fun h => P.orb_ap hb h)
  constructor
  · intro hy
    obtain ⟨i, rfl⟩ := (Q.mem_orb hxs).1 hy
    induction i with
    | zero => exact hx
    | succ i ih => exact hcl _ (Q.its hxs i) (ih ((Q.mem_orb hxs).2 ⟨i, rfl⟩))
  · intro hy
    exact Q.orb_trans hxs (Q.orb_symm ha (hin x hx)) (hin y hy)
theorem cn_diff (hd : b ∉ orb p a) : cn p n = cn q n + 1 := by
  obtain ⟨i, hi, hia, hil, hile⟩ := least_ex P ha
  obtain ⟨j, hj, hjb, hjl, hjle⟩ := least_ex P hb
  have hdis : ∀ y, y ∈ orb p a → y ∈ orb p b → False := fun y h1 h2 => by
    have hys := P.orb_rng ha h1
    exact hd (P.orb_trans ha h1 (P.orb_symm hb h2))
  have hij : i ≠ j := fun e => hdis i hia (e ▸ hjb)
  have hother : ∀ k : Nat, k < n → (k : Int) ∉ orb p a → (k : Int) ∉ orb p b → low p k = low q k := fun k hk h1 h2 => by
    have hks : Sq n (k : Int) := Sq.nat hk
    have ho := sw_out P Q hq hks (fun h => h1 (P.orb_symm hks h)) (fun h => h2 (P.orb_symm hks h))
    rw [Bool.eq_iff_iff, low_mem, low_mem]
    exact ⟨fun h y hy => h y ((ho y).1 hy), fun h y hy => h y ((ho y).2 hy)⟩
  have hlq : ∀ k : Nat, k < n → ((k : Int) ∈ orb p a ∨ (k : Int) ∈ orb p b) → (low q k = true ↔ ∀ y, y ∈ orb p a ∨ y ∈ orb p b → (k : Int) ≤ y) := fun k hk h => by
    have hu := sw_union P Q ha hb hab hq hd h
    rw [low_mem]
    exact ⟨fun g y hy => g y ((hu y).2 hy), fun g y hy => g y ((hu y).1 hy)⟩
  have hlp : ∀ k : Nat, k < n → (k : Int) ∈ orb p a → (low p k = true ↔ k = i) := fun k hk h => by
    constructor
    · intro hl
      have h1 := hile _ h
      have hks : Sq n (k : Int) := Sq.nat hk
      have h2 := low_mem.1 hl i (P.orb_trans hks (P.orb_symm ha h) hia)
      omega
    · rintro rfl; exact hil
  have hlp' : ∀ k : Nat, k < n → (k : Int) ∈ orb p b → (low p k = true ↔ k = j) := fun k hk h => by
    constructor
    · intro hl
      have h1 := hjle _ h
      have hks : Sq n (k : Int) := Sq.nat hk
      have h2 := low_mem.1 hl j (P.orb_trans hks (P.orb_symm hb h) hjb)
      omega
    · rintro rfl; exact hjl
  have hsame : ∀ {m l : Nat}, (m = i ∧ l = j ∨ m = j ∧ l = i) → m < l → ∀ k, k < n → k ≠ l → low p k = low q k := fun {m l} hml hlt k hk hne => by
    by_cases h1 : (k : Int) ∈ orb p a
    · rw [Bool.eq_iff_iff, hlp k hk h1, hlq k hk (.inl h1)]
      constructor
      · rintro rfl y hy
        rcases hy with hy | hy
        · exact hile y hy
        · have := hjle y hy; omega
      · intro hall
        have h2 := hall i (.inl hia)
        have h3 := hile _ h1
        omega
    · by_cases h2 : (k : Int) ∈ orb p b
      · rw [Bool.eq_iff_iff, hlp' k hk h2, hlq k hk (.inr h2)]
        constructor
        · rintro rfl y hy
          rcases hy with hy | hy
          · have := hile y hy; omega
          · exact hjle y hy
        · intro hall
          have h3 := hall j (.inr hjb)
          have h4 := hjle _ h2
          omega
      · exact hother k hk h1 h2
  rcases Nat.lt_or_gt_of_ne hij with hlt | hlt
  · refine countP_but hjl ?_ hj (hsame (.inl ⟨rfl, rfl⟩) hlt)
    refine Bool.eq_false_iff.2 fun h => ?_
    have := (hlq j hj (.inr hjb)).1 h i (.inl hia)
    omega
  · refine countP_but hil ?_ hi (hsame (.inr ⟨rfl, rfl⟩) hlt)
    refine Bool.eq_false_iff.2 fun h => ?_
    have := (hlq i hi (.inl hia)).1 h j (.inr hjb)
    omega
end
/-- Where both lie in one orbit, it falls apart. -/
theorem sw_split {p q : List Int} {n : Nat} (P : Perm p n) (Q : Perm q n) {a b : Int} (ha : Sq n a) (hab : a ≠ b) (hq : ∀ x, Sq n x → ap q x = sw a b (ap p x)) (hs : b ∈ orb p a) : b ∉ orb q a := by
  obtain ⟨k, hk, hkb⟩ := mem_nth hs
  rw [orb_len] at hk
  rw [nth_orb hk] at hkb
  obtain ⟨_, _, _, h4⟩ := P.pers ha
  have hk0 : 0 < k := Nat.pos_of_ne_zero fun e => by subst e; exact hab hkb
  have key : ∀ i, ∃ j, j < k ∧ it q i a = it p j a := by
    intro i
    induction i with
    | zero => exact ⟨0, hk0, rfl⟩
    | succ i ih =>
      obtain ⟨j, hj, e⟩ := ih
      show ∃ r, r < k ∧ ap q (it q i a) = it p r a
      rw [e, hq _ (P.its ha j)]
      by_cases h : j + 1 = k
      · have e2 : ap p (it p j a) = b := by rw [← hkb, ← h]; rfl
        rw [e2, sw_b hab]
        exact ⟨0, hk0, rfl⟩
      · refine ⟨j + 1, by omega, ?_⟩
        have h1 : it p (j + 1) a ≠ a := h4 (j + 1) (by omega) (by omega)
        have h2 : it p (j + 1) a ≠ b := fun e2 => by
          have e3 : it p (k - (j + 1)) (it p (j + 1) a) = it p (j + 1) a := by rw [← it_add, Nat.sub_add_cancel (by omega), e2, hkb]
          have e4 : it p (j + 1) (it p (k - (j + 1)) a) = it p (j + 1) a := by rw [← it_add, Nat.add_comm, it_add]; exact e3
          exact h4 (k - (j + 1)) (by omega) (by omega) (P.itInj (P.its ha _) ha _ e4)
        exact sw_ne h1 h2
  intro hm
  obtain ⟨i, e⟩ := (Q.mem_orb ha).1 hm
  obtain ⟨j, hj, e2⟩ := key i
  rw [e2, ← hkb] at e
  have e4 : it p j (it p (k - j) a) = it p j a := by rw [← it_add, Nat.add_sub_cancel' (by omega)]; exact e
  exact h4 (k - j) (by omega) (by omega) (P.itInj (P.its ha _) ha _ e4)
theorem cn_swap {p q : List Int} {n : Nat} (P : Perm p n) (Q : Perm q n) {a b : Int} (ha : Sq n a) (hb : Sq n b) (hab : a ≠ b) (hq : ∀ x, Sq n x → ap q x = sw a b (ap p x)) : cn p n = cn q n + 1 ∨ cn q n = cn p n + 1 := by
  by_cases h : b ∈ orb p a
  · exact .inr (cn_diff Q P ha hb hab (fun x hx => by rw [hq x hx, sw_sw]) (sw_split P Q ha hab hq h))
  · exact .inl (cn_diff P Q ha hb hab hq h)
/-! ### 2. Products of exchanges -/
def swl : List (Int × Int) → Int → Int
  | [], x => x
  | t :: T, x => swl T (sw t.1 t.2 x)
def OkT (n : Nat) (T : List (Int × Int)) : Prop := ∀ t ∈ T, Sq n t.1 ∧ Sq n t.2 ∧ t.1 ≠ t.2
theorem swl_app : ∀ {T S : List (Int × Int)} {x : Int}, swl (T ++ S) x = swl S (swl T x)
  | [], _, _ => rfl
  | _ :: T, _, _ => swl_app (T := T)
theorem swl_rev : ∀ {T : List (Int × Int)} {x : Int}, swl T.reverse (swl T x) = x
  | [], _ => rfl
  | t :: T, x => by
    rw [List.reverse_cons, swl_app]
    show sw t.1 t.2 (swl T.reverse (swl T (sw t.1 t.2 x))) = x
    rw [swl_rev, sw_sw]
theorem swl_sq {n : Nat} : ∀ {T : List (Int × Int)}, OkT n T → ∀ {x : Int}, Sq n x → Sq n (swl T x)
  | [], _, _, hx => hx
  | t :: _, h, _, hx => swl_sq (fun u hu => h u (List.mem_cons_of_mem _ hu)) (sw_sq (h t List.mem_cons_self).1 (h t List.mem_cons_self).2.1 hx)
theorem swl_inj {T : List (Int × Int)} {x y : Int} (e : swl T x = swl T y) : x = y := by rw [← swl_rev (T := T) (x := x), e, swl_rev]
theorem swl_perm {n : Nat} {T : List (Int × Int)} (h : OkT n T) : Perm (fnL n (swl T)) n := fnL_perm (fun _ hx => swl_sq h hx) fun _ _ _ _ e => swl_inj e
theorem okT_app {n : Nat} {T S : List (Int × Int)} (h : OkT n T) (k : OkT n S) : OkT n (T ++ S) := fun t ht => by
  rcases List.mem_append.1 ht with q | q
  · exact h t q
  · exact k t q
theorem okT_rev {n : Nat} {T : List (Int × Int)} (h : OkT n T) : OkT n T.reverse := fun t ht => h t (List.mem_reverse.1 ht)
theorem cn_id {n : Nat} : cn (fnL n fun x => x) n = n := by
  have P : Perm (fnL n fun x => x) n := fnL_perm (fun _ h => h) fun _ _ _ _ e => e
  unfold cn
  rw [List.countP_eq_length.2, List.length_range]
  intro i hi
  have hi' := List.mem_range.1 hi
  refine (P.low_iff hi').2 fun j hj hm => ?_
  have hjs : Sq n (j : Int) := Sq.nat (by omega)
  obtain ⟨r, e⟩ := (P.mem_orb hjs).1 hm
  have key : ∀ r, it (fnL n fun x => x) r (j : Int) = j := by
    intro r
    induction r with
    | zero => rfl
    | succ r ih => show ap _ (it _ r (j : Int)) = _; rw [ih, ap_fnL hjs]
  rw [key] at e
  omega
/-- A product of k exchanges has as many cycles as elements, but for k, up to an even number. -/
theorem cn_swl {n : Nat} : ∀ (k : Nat) {T : List (Int × Int)}, T.length = k → OkT n T → (cn (fnL n (swl T)) n + k) % 2 = n % 2
  | 0, T, hl, _ => by
    obtain rfl : T = [] := List.eq_nil_of_length_eq_zero hl
    rw [show fnL n (swl []) = fnL n fun x => x from rfl, cn_id]; rfl
  | k + 1, T, hl, h => by
    have hne : T ≠ [] := fun e => by rw [e] at hl; simp at hl
    obtain ⟨T0, t, rfl⟩ : ∃ T0 t, T = T0 ++ [t] := ⟨T.dropLast, T.getLast hne, (List.dropLast_concat_getLast hne).symm⟩
    have h0 : OkT n T0 := fun u hu => h u (List.mem_append.2 (.inl hu))
    obtain ⟨ha, hb, hab⟩ := h t (List.mem_append.2 (.inr (List.mem_singleton.2 rfl)))
    have hl0 : T0.length = k := by simp at hl; omega
    have ih := cn_swl k hl0 h0
    have := cn_swap (swl_perm h0) (swl_perm h) ha hb hab fun x hx => by rw [ap_fnL hx, ap_fnL hx, swl_app]; rfl
    omega
/-- Every permutation can be undone by exchanges. -/
theorem swl_ex {p : List Int} {n : Nat} (P : Perm p n) : ∀ k, k ≤ n → ∃ T, OkT n T ∧ ∀ x, Sq n x → x < k → swl T (ap p x) = x
  | 0, _ => ⟨[], fun _ h => (by cases h), fun x hx hlt => by have := hx.1; omega⟩
  | k + 1, hk => by
    obtain ⟨T, hT, h⟩ := swl_ex P k (by omega)
    have hks : Sq n (k : Int) := Sq.nat (by omega)
    have hys : Sq n (swl T (ap p k)) := swl_sq hT (P.aps hks)
    by_cases e : swl T (ap p k) = k
    · refine ⟨T, hT, fun x hx hlt => ?_⟩
      by_cases ex : x = k
      · rw [ex, e]
      · exact h x hx (by omega)
    · refine ⟨T ++ [((k : Int), swl T (ap p k))], okT_app hT fun t ht => ?_, fun x hx hlt => ?_⟩
      · rw [List.mem_singleton] at ht; subst ht
        exact ⟨hks, hys, fun q => e q.symm⟩
      · rw [swl_app]
        show sw (k : Int) (swl T (ap p k)) (swl T (ap p x)) = x
        by_cases ex : x = k
        · rw [ex, sw_b (fun q => e q.symm)]
        · rw [h x hx (by omega)]
          refine sw_ne ex fun q => ex ?_
          have h2 := h x hx (by omega)
          have h3 : swl T (ap p x) = swl T (ap p k) := h2.trans q
          exact P.inj hx hks (swl_inj h3)
theorem swl_inv {p : List Int} {n : Nat} (P : Perm p n) : ∃ T, OkT n T ∧ (∀ x, Sq n x → ap (invL p) x = swl T x) ∧ ∀ x, Sq n x → ap p x = swl T.reverse x := by
  obtain ⟨T, hT, h⟩ := swl_ex P n (Nat.le_refl _)
  refine ⟨T, hT, fun x hx => ?_, fun x hx => ?_⟩
  · have h1 := h _ (P.inv.aps hx) (P.inv.aps hx).2
    rw [P.ap_inv hx] at h1
    exact h1.symm
  · have h1 := h x hx hx.2
    rw [← h1, swl_rev, h1]
/-- The vertices are as many as the squares, but for an even number. -/
theorem vtx_even {o : Ori} (v : Valid o) : (vtx o).length % 2 = o.1.length % 2 := by
  obtain ⟨T, hT, t1, t2⟩ := swl_inv v.pR
  obtain ⟨S, hS, s1, s2⟩ := swl_inv v.pU
  have e : ∀ x, Sq o.1.length x → ap (comm o) x = swl (T ++ S ++ T.reverse ++ S.reverse) x := fun x hx => by
    have hl := v.pR.inv.aps hx
    have hd := v.pU.inv.aps hl
    have hr := v.pR.aps hd
    rw [comm_ap hx, s2 _ hr, t2 _ hd, s1 _ hl, t1 _ hx, swl_app, swl_app, swl_app]
  have hc : comm o = fnL o.1.length (swl (T ++ S ++ T.reverse ++ S.reverse)) := by
    rw [← fnL_ap (comm_len o)]; exact fnL_congr e
  have h1 := cn_swl _ rfl (okT_app (okT_app (okT_app hT hS) (okT_rev hT)) (okT_rev hS))
  rw [← hc] at h1
  have h2 : (vtx o).length = cn (comm o) o.1.length := cn_eq v.pC
  rw [h2]
  simp only [List.length_append, List.length_reverse] at h1
  omega
end Go.Fl

/- Renumbered origamis: isomorphisms, labels. Plain Lean, no program in sight. -/
namespace Go.Fl
/-! ### Renumbering by a permutation -/
/-- An isomorphism. -/
structure IsIso (a b : Ori) (f : List Int) : Prop where
  hom : IsHom a b f
  perm : Perm f a.1.length
  eq : b.1.length = a.1.length
/-! ### Numberings go with isomorphisms -/
/-! ### The least candidate -/
/-! ### What stays the same -/
end Go.Fl

/- Periods of isomorphic origamis; lists shuffled by a choice. Plain Lean, no program in sight. -/
namespace Go.Fl
/-! ### There are potentials -/
section
variable {o : Ori} {k j : Nat} {at' : List (Int × Int × Unit)} {l : L3} {L : List Int}
theorem PB.idle (h : PB o k 0 at' l L) (hk : L.length ≤ k) : PB o (k + 1) 0 at' l L := by
  have e : ∀ i e, i < L.length → (Lkd (k + 1) 0 i e ↔ Lkd k 0 i e) := fun i e hi => by unfold Lkd; omega
  refine ⟨h.len, h.gd, h.ps, h.nf, h.bd, fun i e' hi hl => h.cl i e' ((e _ _ hl).1 hi) hl, fun u => (h.sp u).trans ?_⟩
  constructor <;> refine Sp.mono fun d ⟨i, e', h3, h4, h5⟩ => Sp.gen ⟨i, e', ?_, h4, h5⟩
  · exact (e _ _ h4).2 h3
  · exact (e _ _ h4).1 h3
theorem PB.step (v : Valid o) (hg0 : Good o.1.length ([] ++ [(0 : Int)])) (hlt : k < (bfsTo o [] 0 k).length) (hj : j < 2) (h : PB o k j at' l (srch o [] 0 k j)) : ∃ at2 l2, PB o k (j + 1) at2 l2 (srch o [] 0 k (j + 1)) := by
  have hxe := srch_at (o := o) (F := []) (s := 0) (j := j) hlt
  have hy := srch_y v hg0 hlt hj
  have e : edg o (nth (srch o [] 0 k j) k) j = nth (stp o (nth (bfsTo o [] 0 k) k)) j := by rw [hxe.1, edg_stp hj]
  by_cases hm : nth (stp o (nth (bfsTo o [] 0 k) k)) j ∈ srch o [] 0 k j
  · rw [srch_in hj hm]
    exact ⟨_, _, h.old v hxe.2 hj (by rw [e]; exact hm)⟩
  · rw [srch_new hj hm, ← e]
    exact ⟨_, _, h.new hxe.2 hj (by rw [e]; exact hy) (by rw [e]; exact hm) (a := (uni (pAt at' (nth (srch o [] 0 k j) k)) j).1) (b := (uni (pAt at' (nth (srch o [] 0 k j) k)) j).2) rfl⟩
theorem PB.ex (v : Valid o) (hg0 : Good o.1.length ([] ++ [(0 : Int)])) : ∀ k, ∃ at' l, PB o k 0 at' l (bfsTo o [] 0 k)
  | 0 => ⟨_, _, PB.start v⟩
  | k + 1 => by
    obtain ⟨a0, l0, h0⟩ := PB.ex v hg0 k
    by_cases hlt : k < (bfsTo o [] 0 k).length
    · obtain ⟨a1, l1, h1⟩ := PB.step (j := 0) v hg0 hlt (by omega) h0
      obtain ⟨a2, l2, h2⟩ := PB.step (j := 1) v hg0 hlt (by omega) h1
      rw [← srch_two hlt]
      exact ⟨a2, l2, h2.two⟩
    · rw [bfsTo, if_neg hlt]
      exact ⟨a0, l0, h0.idle (by omega)⟩
theorem pot_ex (v : Valid o) (cn : Conn o) : ∃ p, PotT o p := by
  have hn := v.pos
  have h0 : Sq o.1.length 0 := ⟨by omega, by omega⟩
  obtain ⟨a, l, h⟩ := PB.ex v (good1 h0) o.1.length
  exact ⟨_, h.ps.pot fun x hx => cn.all v h0 hx⟩
theorem per_spec (v : Valid o) {p : Int → V2} (hp : PotT o p) : NF (perL o) ∧ ∀ u, InL (perL o) u ↔ Sp (Df o p) u := by
  obtain ⟨h1, h2⟩ := latL_spec (vecs o p o.1.length)
  rw [latL_per v hp] at h1 h2
  exact ⟨h1, fun u => (h2 u).trans ⟨Sp.mono fun d hd => Sp.gen (vecs_mem.1 hd), Sp.mono fun d hd => Sp.gen (vecs_mem.2 hd)⟩⟩
end
section
variable {a b : Ori} {f : List Int}
end
/-! ### Lists shuffled by a choice -/
def shufK (ch : List Int) (m i : Nat) : Nat := (if i < ch.length then nth ch i % (m : Int) else 0).toNat
def shufS (ch : List Int) (n : Nat) : Nat → List Int × List Int
  | 0 => (sqs n, [])
  | i + 1 => ((shufS ch n i).1.take (shufK ch (shufS ch n i).1.length i) ++ (shufS ch n i).1.drop (shufK ch (shufS ch n i).1.length i + 1), (shufS ch n i).2 ++ [nth (shufS ch n i).1 (shufK ch (shufS ch n i).1.length i)])
def shufL (ch : List Int) (n : Nat) : List Int := (shufS ch n n).2
end Go.Fl

/- The lattice of the periods has an index that divides the number of squares; sums over vertices. Plain Lean, no program in sight. -/
namespace Go.Fl
/-! ### 1. Classes of vectors -/
def clsV (l : L3) (w : V2) : Int := (w.2 % l.2.2) * l.1 + (w.1 - (w.2 / l.2.2) * l.2.1) % l.1
def InD (l : L3) (v w : V2) : Prop := InL l (w.1 - v.1, w.2 - v.2)
theorem InD.refl {l : L3} {v : V2} : InD l v v := by unfold InD; rw [Int.sub_self, Int.sub_self]; exact InL.zero
theorem InD.symm {l : L3} {v w : V2} (h : InD l v w) : InD l w v := by
  have := InL.smul h (-1)
  unfold InD
  simp only at this
  rwa [show w.1 - v.1 = -(v.1 - w.1) by omega, show w.2 - v.2 = -(v.2 - w.2) by omega, Int.neg_mul_neg, Int.neg_mul_neg, Int.one_mul, Int.one_mul] at this
theorem InD.trans {l : L3} {u v w : V2} (h : InD l u v) (k : InD l v w) : InD l u w := by
  have := InL.add h k
  unfold InD
  simp only at this
  rwa [show v.1 - u.1 + (w.1 - v.1) = w.1 - u.1 by omega, show v.2 - u.2 + (w.2 - v.2) = w.2 - u.2 by omega] at this
theorem clsV_rng {l : L3} (hA : 0 < l.1) (hC : 0 < l.2.2) (w : V2) : 0 ≤ clsV l w ∧ clsV l w < l.1 * l.2.2 := by
  have a1 := Int.emod_nonneg w.2 (show l.2.2 ≠ 0 by omega)
  have a2 := Int.emod_lt_of_pos w.2 hC
  have b1 := Int.emod_nonneg (w.1 - (w.2 / l.2.2) * l.2.1) (show l.1 ≠ 0 by omega)
  have b2 := Int.emod_lt_of_pos (w.1 - (w.2 / l.2.2) * l.2.1) hA
  unfold clsV
  have h1 : 0 ≤ (w.2 % l.2.2) * l.1 := Int.mul_nonneg a1 (by omega)
  have h2 : (w.2 % l.2.2 + 1) * l.1 ≤ l.2.2 * l.1 := Int.mul_le_mul_of_nonneg_right (by omega) (by omega)
  rw [Int.add_mul, Int.one_mul, Int.mul_comm l.2.2] at h2
  omega
theorem clsV_eq {l : L3} (_ : 0 < l.1) (hC : 0 < l.2.2) {v w : V2} (h : InD l v w) : clsV l v = clsV l w := by
  obtain ⟨m, n, h1, h2⟩ := h
  simp only at h1 h2
  have hw2 : w.2 = v.2 + n * l.2.2 := by omega
  have hw1 : w.1 = v.1 + (m * l.1 + n * l.2.1) := by omega
  have e1 : w.2 % l.2.2 = v.2 % l.2.2 := by rw [hw2, Int.add_mul_emod_self_right]
  have e2 : w.2 / l.2.2 = v.2 / l.2.2 + n := by rw [hw2, Int.add_mul_ediv_right _ _ (by omega)]
  have e3 : w.1 - (w.2 / l.2.2) * l.2.1 = v.1 - (v.2 / l.2.2) * l.2.1 + m * l.1 := by rw [e2, hw1, Int.add_mul]; omega
  unfold clsV
  rw [e1, e3, Int.add_mul_emod_self_right]
theorem clsV_in {l : L3} (hA : 0 < l.1) (_ : 0 < l.2.2) {v w : V2} (h : clsV l v = clsV l w) : InD l v w := by
  have b1 := fun u : V2 => Int.emod_nonneg (u.1 - (u.2 / l.2.2) * l.2.1) (show l.1 ≠ 0 by omega)
  have b2 := fun u : V2 => Int.emod_lt_of_pos (u.1 - (u.2 / l.2.2) * l.2.1) hA
  unfold clsV at h
  have e : ∀ u : V2, ((u.2 % l.2.2) * l.1 + (u.1 - (u.2 / l.2.2) * l.2.1) % l.1) / l.1 = u.2 % l.2.2 := fun u => by
    rw [Int.add_comm, Int.add_mul_ediv_right _ _ (by omega), Int.ediv_eq_zero_of_lt (b1 u) (b2 u), Int.zero_add]
  have h1 : v.2 % l.2.2 = w.2 % l.2.2 := by rw [← e v, ← e w, h]
  have h2 : (v.1 - (v.2 / l.2.2) * l.2.1) % l.1 = (w.1 - (w.2 / l.2.2) * l.2.1) % l.1 := by rw [h1] at h; omega
  have d1 := Int.mul_ediv_add_emod v.2 l.2.2
  have d2 := Int.mul_ediv_add_emod w.2 l.2.2
  have d3 := Int.mul_ediv_add_emod (v.1 - (v.2 / l.2.2) * l.2.1) l.1
  have d4 := Int.mul_ediv_add_emod (w.1 - (w.2 / l.2.2) * l.2.1) l.1
  refine ⟨(w.1 - (w.2 / l.2.2) * l.2.1) / l.1 - (v.1 - (v.2 / l.2.2) * l.2.1) / l.1, w.2 / l.2.2 - v.2 / l.2.2, ?_, ?_⟩
  · show w.1 - v.1 = _
    rw [Int.sub_mul, Int.sub_mul, Int.mul_comm _ l.1, Int.mul_comm _ l.1]
    omega
  · show w.2 - v.2 = _
    rw [Int.sub_mul, Int.mul_comm _ l.2.2, Int.mul_comm _ l.2.2]
    omega
/-! ### 2. As many squares in each class -/
noncomputable def nC (o : Ori) (p : Int → V2) (c : Int) : Nat := (sqs o.1.length).countP fun x => decide (clsV (perL o) (p x) = c)
theorem nodup_sub : ∀ {l m : List Int}, l.Nodup → (∀ x ∈ l, x ∈ m) → l.length ≤ m.length
  | [], _, _, _ => Nat.zero_le _
  | x :: l, m, hn, h => by
    have hx := h x List.mem_cons_self
    obtain ⟨h1, h2⟩ := List.nodup_cons.1 hn
    have := nodup_sub (m := m.erase x) h2 fun y hy => (List.mem_erase_of_ne (fun e => h1 (by rw [← e]; exact hy))).2 (h y (List.mem_cons_of_mem _ hy))
    rw [List.length_erase_of_mem hx] at this
    have := List.length_pos_of_mem hx
    rw [List.length_cons]; omega
theorem countP_le_map {f : Int → Int} {P Q : Int → Bool} {l : List Int} (hl : l.Nodup) (hf : ∀ x ∈ l, f x ∈ l) (hi : ∀ x ∈ l, ∀ y ∈ l, f x = f y → x = y) (h : ∀ x ∈ l, P x = true → Q (f x) = true) : l.countP P ≤ l.countP Q := by
  have e : ((l.filter P).map f).length = (l.filter P).length := List.length_map ..
  rw [List.countP_eq_length_filter, List.countP_eq_length_filter, ← e]
  refine nodup_sub ?_ ?_
  · exact List.pairwise_map.2 ((hl.filter _).imp_of_mem fun hx hy hne e => hne (hi _ (List.mem_filter.1 hx).1 _ (List.mem_filter.1 hy).1 e))
  · intro z hz
    obtain ⟨x, hx, rfl⟩ := List.mem_map.1 hz
    obtain ⟨h1, h2⟩ := List.mem_filter.1 hx
    exact List.mem_filter.2 ⟨hf x h1, h x h1 h2⟩
theorem sqs_nodup {n : Nat} : (sqs n).Nodup := nodup_of_lt sqs_lt
theorem sum_const {g : Nat → Nat} {k : Nat} : ∀ {m : Nat}, (∀ c, c < m → g c = k) → ((List.range m).map g).sum = m * k
  | 0, _ => by simp
  | m + 1, h => by
    rw [List.range_succ, List.map_append, List.sum_append, sum_const fun c hc => h c (by omega)]
    simp [h m (by omega), Nat.add_mul]
/-- The classes together have all elements. -/
theorem count_cls {f : Int → Int} {l : List Int} : ∀ {m : Nat}, (∀ x ∈ l, 0 ≤ f x ∧ f x < m) → ((List.range m).map fun c : Nat => l.countP fun x => decide (f x = (c : Int))).sum = l.length := by
  induction l with
  | nil => intro m _; exact (sum_const (k := 0) fun _ _ => rfl).trans (Nat.mul_zero _)
  | cons x l ih =>
    intro m h
    have hx := h x List.mem_cons_self
    have ih' := ih (m := m) fun y hy => h y (List.mem_cons_of_mem _ hy)
    have key : ∀ m : Nat, ((List.range m).map fun c : Nat => (x :: l).countP fun x => decide (f x = (c : Int))).sum = ((List.range m).map fun c : Nat => l.countP fun x => decide (f x = (c : Int))).sum + if f x < m then 1 else 0 := by
      intro m
      induction m with
      | zero => rw [if_neg (by omega)]; rfl
      | succ m ihm =>
        rw [List.range_succ, List.map_append, List.map_append, List.sum_append, List.sum_append, ihm]
        simp only [List.map_cons, List.map_nil, List.sum_cons, List.sum_nil, List.countP_cons]
        by_cases e : f x = (m : Int)
        · have a1 : (if f x < ((m + 1 : Nat) : Int) then 1 else 0) = 1 := if_pos (by omega)
          have a2 : (if f x < (m : Int) then 1 else 0) = 0 := if_neg (by omega)
          have a3 : (if decide (f x = (m : Int)) = true then 1 else 0) = 1 := by simp [e]
          rw [a1, a2, a3]; omega
        · have a3 : (if decide (f x = (m : Int)) = true then 1 else 0) = 0 := by simp [e]
          rw [a3]
          by_cases e2 : f x < (m : Int)
          · rw [if_pos e2, if_pos (show f x < ((m + 1 : Nat) : Int) by omega)]; omega
          · rw [if_neg e2, if_neg (show ¬ f x < ((m + 1 : Nat) : Int) by omega)]; omega
    rw [key m, ih', if_pos hx.2, List.length_cons]
section
variable {o : Ori} (v : Valid o) {p : Int → V2} (hp : PotT o p)
include v hp
theorem stepR {x : Int} (hx : Sq o.1.length x) : InD (perL o) (p (ap o.1 x)) ((p x).1 + 1, (p x).2) := by
  have := ((per_spec v hp).2 _).2 (Sp.gen (D := Df o p) ⟨x, hx, .inl rfl⟩)
  exact this
theorem stepU {x : Int} (hx : Sq o.1.length x) : InD (perL o) (p (ap o.2 x)) ((p x).1, (p x).2 + 1) := by
  have := ((per_spec v hp).2 _).2 (Sp.gen (D := Df o p) ⟨x, hx, .inr rfl⟩)
  exact this
theorem walkR {x : Int} (hx : Sq o.1.length x) : ∀ i : Nat, InD (perL o) (p (it o.1 i x)) ((p x).1 + i, (p x).2)
  | 0 => by simpa [it] using InD.refl
  | i + 1 => by
    refine (stepR v hp (v.pR.its hx i)).trans ?_
    have := walkR hx i
    unfold InD at this ⊢
    simp only at this ⊢
    rwa [show (p x).1 + ((i + 1 : Nat) : Int) - ((p (it o.1 i x)).1 + 1) = (p x).1 + i - (p (it o.1 i x)).1 by omega]
theorem walkU {x : Int} (hx : Sq o.1.length x) : ∀ i : Nat, InD (perL o) (p (it o.2 i x)) ((p x).1, (p x).2 + i)
  | 0 => by simpa [it] using InD.refl
  | i + 1 => by
    refine (stepU v hp (v.pU.its hx i)).trans ?_
    have := walkU hx i
    unfold InD at this ⊢
    simp only at this ⊢
    rwa [show (p x).2 + ((i + 1 : Nat) : Int) - ((p (it o.2 i x)).2 + 1) = (p x).2 + i - (p (it o.2 i x)).2 by omega]
theorem per_pos : 0 < (perL o).1 ∧ 0 < (perL o).2.2 ∧ (∃ M : Nat, 0 < M ∧ InL (perL o) (M, 0)) ∧ ∃ M : Nat, 0 < M ∧ InL (perL o) (0, M) := by
  obtain ⟨nf, _⟩ := per_spec v hp
  have h0 : Sq o.1.length 0 := ⟨by omega, by have := v.pos; omega⟩
  obtain ⟨r1, r2, _, _⟩ := v.pR.pers h0
  obtain ⟨u1, u2, _, _⟩ := v.pU.pers h0
  have hr := walkR v hp h0 (per o.1 0)
  have hu := walkU v hp h0 (per o.2 0)
  rw [r1] at hr; rw [u1] at hu
  unfold InD at hr hu
  simp only at hr hu
  rw [show (p 0).1 + (per o.1 0 : Int) - (p 0).1 = per o.1 0 by omega, Int.sub_self] at hr
  rw [show (p 0).2 + (per o.2 0 : Int) - (p 0).2 = per o.2 0 by omega, Int.sub_self] at hu
  have d1 := hr.dvdA nf
  have d2 := hu.dvdC
  simp only at d2
  have n1 := nf.a
  have n2 := nf.c
  refine ⟨?_, ?_, ⟨_, r2, hr⟩, _, u2, hu⟩
  · refine Classical.byContradiction fun h => ?_
    have e : (perL o).1 = 0 := by omega
    rw [e] at d1
    have := Int.zero_dvd.1 d1; omega
  · refine Classical.byContradiction fun h => ?_
    have e : (perL o).2.2 = 0 := by omega
    rw [e] at d2
    have := Int.zero_dvd.1 d2; omega
theorem nC_step (f : Int → Int) (hf : ∀ x, Sq o.1.length x → Sq o.1.length (f x)) (hi : ∀ x y, Sq o.1.length x → Sq o.1.length y → f x = f y → x = y) (d : V2) (hd : ∀ x, Sq o.1.length x → InD (perL o) (p (f x)) ((p x).1 + d.1, (p x).2 + d.2)) (w : V2) :
    nC o p (clsV (perL o) w) ≤ nC o p (clsV (perL o) (w.1 + d.1, w.2 + d.2)) := by
  obtain ⟨hA, hC, _, _⟩ := per_pos v hp
  refine countP_le_map sqs_nodup (fun x hx => mem_sqs.2 (hf x (mem_sqs.1 hx))) (fun x hx y hy => hi x y (mem_sqs.1 hx) (mem_sqs.1 hy)) fun x hx h => decide_eq_true ?_
  have hx' := mem_sqs.1 hx
  have h1 := clsV_in hA hC (of_decide_eq_true h)
  refine clsV_eq hA hC ((hd x hx').trans ?_)
  unfold InD at h1 ⊢
  simp only at h1 ⊢
  rwa [show w.1 + d.1 - ((p x).1 + d.1) = w.1 - (p x).1 by omega, show w.2 + d.2 - ((p x).2 + d.2) = w.2 - (p x).2 by omega]
theorem nC_r (w : V2) : ∀ i : Nat, nC o p (clsV (perL o) w) ≤ nC o p (clsV (perL o) (w.1 + i, w.2))
  | 0 => by rw [show w.1 + ((0 : Nat) : Int) = w.1 by omega]; exact Nat.le_refl _
  | i + 1 => by
    refine Nat.le_trans (nC_r w i) ?_
    have := nC_step v hp (ap o.1) (fun _ hx => v.pR.aps hx) (fun _ _ hx hy e => v.pR.inj hx hy e) (1, 0) (fun x hx => by have := stepR v hp hx; simpa using this) (w.1 + i, w.2)
    simp only [Int.add_zero] at this
    rwa [show w.1 + ((i + 1 : Nat) : Int) = w.1 + i + 1 by omega]
theorem nC_u (w : V2) : ∀ i : Nat, nC o p (clsV (perL o) w) ≤ nC o p (clsV (perL o) (w.1, w.2 + i))
  | 0 => by rw [show w.2 + ((0 : Nat) : Int) = w.2 by omega]; exact Nat.le_refl _
  | i + 1 => by
    refine Nat.le_trans (nC_u w i) ?_
    have := nC_step v hp (ap o.2) (fun _ hx => v.pU.aps hx) (fun _ _ hx hy e => v.pU.inj hx hy e) (0, 1) (fun x hx => by have := stepU v hp hx; simpa using this) (w.1, w.2 + i)
    simp only [Int.add_zero] at this
    rwa [show w.2 + ((i + 1 : Nat) : Int) = w.2 + i + 1 by omega]
/-- From anywhere to anywhere. -/
theorem nC_all (w z : V2) : nC o p (clsV (perL o) w) ≤ nC o p (clsV (perL o) z) := by
  obtain ⟨hA, hC, ⟨M, hM, hMi⟩, K, hK, hKi⟩ := per_pos v hp
  -- far enough to the right and up, and back by multiples of the periods
  obtain ⟨i, a, hia⟩ : ∃ (i : Nat) (a : Int), w.1 + i = z.1 + a * M := ⟨(z.1 - w.1 + (w.1 - z.1).natAbs * M).toNat, ((w.1 - z.1).natAbs : Int), by
    have : ((w.1 - z.1).natAbs : Int) * 1 ≤ ((w.1 - z.1).natAbs : Int) * M := Int.mul_le_mul_of_nonneg_left (by omega) (by omega)
    omega⟩
  obtain ⟨j, b, hjb⟩ : ∃ (j : Nat) (b : Int), w.2 + j = z.2 + b * K := ⟨(z.2 - w.2 + (w.2 - z.2).natAbs * K).toNat, ((w.2 - z.2).natAbs : Int), by
    have : ((w.2 - z.2).natAbs : Int) * 1 ≤ ((w.2 - z.2).natAbs : Int) * K := Int.mul_le_mul_of_nonneg_left (by omega) (by omega)
    omega⟩
  refine Nat.le_trans (nC_r v hp w i) (Nat.le_trans (nC_u v hp (w.1 + i, w.2) j) (Nat.le_of_eq ?_))
  congr 1
  refine (clsV_eq hA hC ?_).symm
  have := (hMi.smul a).add (hKi.smul b)
  unfold InD
  simp only [Int.mul_zero, Int.add_zero, Int.zero_add] at this ⊢
  rwa [show w.1 + i - z.1 = a * M by omega, show w.2 + j - z.2 = b * K by omega]
theorem index_dvd : (o.1.length : Int) % ((perL o).1 * (perL o).2.2) = 0 := by
  obtain ⟨hA, hC, _, _⟩ := per_pos v hp
  have hm : 0 < (perL o).1 * (perL o).2.2 := Int.mul_pos hA hC
  have hpos : (((perL o).1 * (perL o).2.2).toNat : Int) = (perL o).1 * (perL o).2.2 := Int.toNat_of_nonneg (by omega)
  have h1 := count_cls (f := fun x => clsV (perL o) (p x)) (l := sqs o.1.length) (m := ((perL o).1 * (perL o).2.2).toNat) fun x _ => by rw [hpos]; exact clsV_rng hA hC _
  have h2 : ∀ c : Nat, c < ((perL o).1 * (perL o).2.2).toNat → nC o p c = nC o p (clsV (perL o) (0, 0)) := fun c hc => by
    have e : clsV (perL o) ((c : Int) % (perL o).1, (c : Int) / (perL o).1) = c := by
      have h3 : (c : Int) / (perL o).1 < (perL o).2.2 := Int.ediv_lt_of_lt_mul hA (by rw [Int.mul_comm]; omega)
      have h4 : 0 ≤ (c : Int) / (perL o).1 := Int.ediv_nonneg (by omega) (by omega)
      unfold clsV
      simp only
      rw [Int.emod_eq_of_lt h4 h3, Int.ediv_eq_zero_of_lt h4 h3, Int.zero_mul, Int.sub_zero, Int.emod_emod, Int.mul_comm]
      exact Int.mul_ediv_add_emod _ _
    rw [← e]
    exact Nat.le_antisymm (nC_all v hp _ _) (nC_all v hp _ _)
  have h3 : ((List.range ((perL o).1 * (perL o).2.2).toNat).map fun c : Nat => nC o p c).sum = _ := sum_const h2
  have h4 : o.1.length = ((perL o).1 * (perL o).2.2).toNat * nC o p (clsV (perL o) (0, 0)) := by
    rw [← h3]; exact (sqs_len (n := o.1.length)).symm.trans h1.symm
  rw [h4, Int.natCast_mul, hpos, Int.mul_emod_right]
end
/-! ### 3. Sums over the vertices -/
def sumL : List Int → Int
  | [] => 0
  | x :: l => x + sumL l
theorem sumL_app : ∀ {a b : List Int}, sumL (a ++ b) = sumL a + sumL b
  | [], _ => by simp [sumL]
  | x :: a, b => by simp only [List.cons_append, sumL, sumL_app]; omega
theorem sumL_perm {a b : List Int} (h : a.Perm b) : sumL a = sumL b := by
  induction h with
  | nil => rfl
  | cons x _ ih => simp only [sumL, ih]
  | swap x y l => simp only [sumL]; omega
  | trans _ _ h1 h2 => rw [h1, h2]
theorem sumTo_list {l : List Int} : ∀ {k : Nat}, k ≤ l.length → sumTo (fun i => nth l i) k = sumL (l.take k)
  | 0, _ => rfl
  | k + 1, hk => by
    rw [take_succ_nth (by omega), sumL_app, sumTo_succ, sumTo_list (by omega)]
    simp [sumL]
theorem sumTo_all {l : List Int} : sumTo (fun i => nth l i) l.length = sumL l := by rw [sumTo_list (Nat.le_refl _), List.take_length]
theorem sum_ords : ∀ {L : List (List Int)}, sumL (ordOf L) = (L.flatten.length : Int) - L.length
  | [] => rfl
  | c :: L => by
    have ih := sum_ords (L := L)
    show (c.length : Int) - 1 + sumL (ordOf L) = _
    rw [ih]; simp only [List.flatten_cons, List.length_append, List.length_cons]; omega
theorem vtx_flat {o : Ori} (v : Valid o) : (vtx o).flatten.length = o.1.length := by
  have h := (flat_perm v.pC v.pos).length_eq
  rw [sqs_len] at h
  exact h
theorem strat_sum {o : Ori} (v : Valid o) : sumL (stratL o) = (o.1.length : Int) - (vtx o).length := by
  have h : (stratL o).Perm (ordsL o) := dnL_all (ordOf_rng v.pC)
  rw [sumL_perm h, ordsL, sum_ords, vtx_flat v]
theorem ang_sum {L : List (List Int)} : ∀ {k : Nat}, k ≤ L.length → sumTo (fun i => ((nth L i).length : Int)) k = ((L.take k).flatten.length : Int)
  | 0, _ => by simp [sumTo]
  | k + 1, hk => by
    rw [take_succ_nth (by omega), List.flatten_append, List.length_append, sumTo_succ, ang_sum (by omega)]
    simp
theorem ang_all {o : Ori} (v : Valid o) : sumTo (fun i => ((nth (vtx o) i).length : Int)) (vtx o).length = o.1.length := by
  rw [ang_sum (Nat.le_refl _), List.take_length, vtx_flat v]
theorem euler {o : Ori} (v : Valid o) : sumTo (fun i => nth (stratL o) i) (stratL o).length = 2 * (((o.1.length : Int) - (vtx o).length).tdiv 2 + 1) - 2 := by
  rw [sumTo_all, strat_sum v]
  have h1 := vtx_even v
  have h2 := vtx_le (o := o)
  rw [Int.tdiv_eq_ediv_of_nonneg (by omega)]
  omega
end Go.Fl

/- Sums stay small. Plain Lean, no program in sight. -/
namespace Go.Fl
theorem sumTo_up {f : Nat → Int} {m : Nat} (h : ∀ i, i < m → 0 ≤ f i) : ∀ {k j : Nat}, k + j ≤ m → sumTo f k ≤ sumTo f (k + j)
  | _, 0, _ => Int.le_refl _
  | k, j + 1, hj => by
    have ih := sumTo_up h (k := k) (j := j) (by omega)
    have := h (k + j) (by omega)
    show sumTo f k ≤ sumTo f (k + j) + f (k + j)
    omega
theorem sumTo_bd {f : Nat → Int} {m : Nat} (h : ∀ i, i < m → 0 ≤ f i) {k : Nat} (hk : k ≤ m) : 0 ≤ sumTo f k ∧ sumTo f k ≤ sumTo f m := by
  have h1 := sumTo_up h (k := 0) (j := k) (by omega)
  have h2 := sumTo_up h (k := k) (j := m - k) (by omega)
  rw [Nat.zero_add] at h1
  rw [Nat.add_sub_cancel' hk] at h2
  exact ⟨h1, h2⟩
theorem ang_bd {o : Ori} (v : Valid o) {k : Nat} (hk : k ≤ (vtx o).length) : 0 ≤ sumTo (fun i => ((nth (vtx o) i).length : Int)) k ∧ sumTo (fun i => ((nth (vtx o) i).length : Int)) k ≤ o.1.length := by
  have := sumTo_bd (f := fun i => ((nth (vtx o) i).length : Int)) (m := (vtx o).length) (fun i _ => Int.natCast_nonneg _) hk
  rwa [ang_all v] at this
theorem strat_bd {o : Ori} (v : Valid o) {i : Nat} (h : i < (stratL o).length) : 0 ≤ nth (stratL o) i ∧ nth (stratL o) i ≤ o.1.length :=
  ordOf_rng v.pC _ ((dnL_all (ordOf_rng v.pC)).mem_iff.1 (nth_mem h))
theorem ord_bd {o : Ori} (v : Valid o) {k : Nat} (hk : k ≤ (vtx o).length) : 0 ≤ sumTo (fun i => nth (stratL o) i) k ∧ sumTo (fun i => nth (stratL o) i) k ≤ o.1.length := by
  rw [← stratL_len v] at hk
  have := sumTo_bd (f := fun i => nth (stratL o) i) (m := (stratL o).length) (fun i h => (strat_bd v h).1) hk
  rw [sumTo_all, strat_sum v] at this
  omega
theorem cyl_bd {o : Ori} {m : Bool} (v : Valid o) {i : Nat} (h : i < (cylL o m).length) : (0 ≤ (nth (cylL o m) i).1 ∧ (nth (cylL o m) i).1 ≤ 60) ∧ (0 ≤ (nth (cylL o m) i).2.1 ∧ (nth (cylL o m) i).2.1 ≤ 60) ∧ 0 ≤ (nth (cylL o m) i).1 * (nth (cylL o m) i).2.1 ∧ (nth (cylL o m) i).1 * (nth (cylL o m) i).2.1 ≤ 3600 := by
  have hb := (ph2_ok v (m := m) (Nat.le_refl _)).1.ok _ (cylL_perm.mem_iff.1 (nth_mem h))
  obtain ⟨x, q, hx, h1, h2, e, _⟩ := hb.ex
  have h3 := (v.pR.pers hx).2.2.1
  have h4 := v.le
  rw [e]
  simp only
  refine ⟨by omega, by omega, Int.mul_nonneg (by omega) (by omega), ?_⟩
  have : (per o.1 x : Int) * (q : Int) ≤ 60 * 60 := Int.mul_le_mul (by omega) (by omega) (by omega) (by omega)
  omega
theorem area_bd {o : Ori} {m : Bool} (v : Valid o) {k : Nat} (hk : k ≤ (cylL o m).length) : 0 ≤ areaT (cylL o m) k ∧ areaT (cylL o m) k ≤ o.1.length := by
  have := sumTo_bd (f := fun i => (nth (cylL o m) i).1 * (nth (cylL o m) i).2.1) (m := (cylL o m).length) (fun i h => (cyl_bd v h).2.2.1) hk
  have h2 := cyl_area v (m := m)
  unfold areaT at h2 ⊢
  rwa [h2] at this
theorem lat_bd {o : Ori} (v : Valid o) (cn : Conn o) : 0 < (perL o).1 ∧ 0 < (perL o).2.2 ∧ 0 < (perL o).1 * (perL o).2.2 ∧ (perL o).1 * (perL o).2.2 ≤ 60 ∧ (perL o).1 ≤ 60 ∧ (perL o).2.2 ≤ 60 ∧ (o.1.length : Int).tmod ((perL o).1 * (perL o).2.2) = 0 := by
  obtain ⟨p, hp⟩ := pot_ex v cn
  obtain ⟨hA, hC, _, _⟩ := per_pos v hp
  have hd := index_dvd v hp
  have hm : 0 < (perL o).1 * (perL o).2.2 := Int.mul_pos hA hC
  have hle : (perL o).1 * (perL o).2.2 ≤ o.1.length := Int.le_of_dvd (by have := v.pos; omega) (Int.dvd_of_emod_eq_zero hd)
  have h4 := v.le
  have h5 : (perL o).1 * 1 ≤ (perL o).1 * (perL o).2.2 := Int.mul_le_mul_of_nonneg_left (by omega) (by omega)
  have h6 : 1 * (perL o).2.2 ≤ (perL o).1 * (perL o).2.2 := Int.mul_le_mul_of_nonneg_right (by omega) (by omega)
  refine ⟨hA, hC, hm, by omega, by omega, by omega, ?_⟩
  rw [Int.tmod_eq_emod_of_nonneg (by omega)]; exact hd
end Go.Fl

/- Contracts: the law of angles and areas. -/
namespace Go.Fl
open Go Go.Proofs

set_option maxRecDepth 100000 in
set_option maxHeartbeats 2000000 in
theorem ct_OrigamiEuler (o : Ori) (m : Bool) : Ct Try.prog 4 [kRd eO o, kB m] (kB true) := by
  refine Ct.mk Try.func4 rfl Try.ntmps4 rfl (fun w J => ?_)
  refine Tr.seq ?_
  refine Tr.rg ?_
  refine TrL.new (ok_box 2 rfl (fun _ => rfl) rfl) rfl rfl rfl rfl ?_
  refine TrL.op (ok_assign rfl (fun _ => rfl)) rfl rfl ?_
  refine TrL.fin ?_
  refine End.nxt ?_
  refine Tr.seq ?_
  refine Tr.seq ?_
  refine Tr.rg ?_
  refine TrL.op (ok_call (fun hp => ct_awake) (.nil)) rfl rfl ?_
  refine TrL.op (ok_not rfl (fun _ => rfl)) rfl rfl ?_
  refine TrL.fin ?_
  refine End.nxt ?_
  refine Tr.cnd rfl ?_ ?_
  · intro h1
    simp at h1
  · intro h1
    refine Tr.skip ?_
    refine End.nxt ?_
    refine Tr.seq ?_
    refine Tr.seq ?_
    refine Tr.rg ?_
    refine TrL.op (ok_fldO rfl (fun _ => rfl)) rfl rfl ?_
    refine TrL.op (ok_ldB rfl (fun _ => rfl) rfl) rfl rfl ?_
    refine TrL.op (ok_lenJ rfl (fun _ => rfl)) rfl rfl ?_
    refine TrL.op (ok_gtr rfl (fun _ => rfl) rfl (fun _ => rfl)) rfl rfl ?_
    refine TrL.op (ok_move rfl (fun _ => rfl)) rfl rfl ?_
    refine TrL.gd rfl rfl rfl (ok_fldO rfl (fun _ => rfl)) rfl rfl ?_
    refine TrL.gd rfl rfl rfl (ok_ldB rfl id rfl) rfl rfl ?_
    refine TrL.gd rfl rfl rfl (ok_lenJ rfl id) rfl rfl ?_
    refine TrL.gd rfl rfl rfl (ok_gtr rfl id rfl (fun _ => rfl)) rfl rfl ?_
    refine TrL.op (ok_or rfl (fun _ => rfl) rfl (fun hp h => gdF2 ((fun _ => rfl) hp) h)) rfl rfl ?_
    refine TrL.op (ok_move rfl (fun _ => rfl)) rfl rfl ?_
    refine TrL.gd rfl rfl rfl (ok_ldBS rfl (fun _ => rfl)) rfl rfl ?_
    refine TrL.gd rfl rfl rfl (ok_call (fun hp => ct_rCheckOne _) (.s rfl id rfl <| .nil)) rfl rfl ?_
    refine TrL.gd rfl rfl rfl (ok_neq rfl id rfl (fun _ => rfl)) rfl rfl ?_
    refine TrL.op (ok_or rfl (fun _ => rfl) rfl (fun hp h => gdF2 ((fun _ => rfl) hp) h)) rfl rfl ?_
    refine TrL.fin ?_
    refine End.nxt ?_
    refine Tr.cnd rfl ?_ ?_
    · intro h3
      refine Tr.seq ?_
      refine Tr.rg ?_
      refine TrL.op (ok_assign rfl (fun _ => rfl)) rfl rfl ?_
      refine TrL.fin ?_
      refine End.nxt ?_
      refine Tr.ret ?_
      refine Rts.thn ?_
      exact Rts.res1 (fn := Try.f4) rfl (.b rfl (by rfl) <| .nil)
    · intro h3
      have hc1 : chk1 o = 0 := by simp at h3; exact h3.2
      obtain ⟨v, cn⟩ := chk1_zero hc1
      have hc0 := chkO_of v
      have hv0 := v.pos
      have hv1 := v.len
      have hv2 := v.le
      have hsl := stratL_len v
      have hvl := vtx_le (o := o)
      have hcy : (cylL o m).length ≤ o.1.length := by rw [cylL_len]; exact (phE_pos v).2
      refine Tr.skip ?_
      refine End.nxt ?_
      refine Tr.seq ?_
      refine Tr.rg ?_
      refine TrL.op (ok_ldBS rfl (fun _ => rfl)) rfl rfl ?_
      refine TrL.op (ok_call (fun hp => ct_oVertices _) (.s rfl (fun _ => rfl) rfl <| .nil)) rfl rfl ?_
      refine TrL.op (ok_move rfl (fun _ => rfl)) rfl rfl ?_
      refine TrL.op (ok_ext rfl (fun _ => rfl) rfl) rfl rfl ?_
      refine TrL.op (ok_ext rfl (fun _ => rfl) rfl) rfl rfl ?_
      refine TrL.op (ok_assign rfl (fun _ => rfl)) rfl rfl ?_
      refine TrL.op (ok_assign rfl (fun _ => rfl)) rfl rfl ?_
      refine TrL.fin ?_
      refine End.nxt ?_
      refine Tr.seq ?_
      refine Tr.rg ?_
      refine TrL.op (ok_ldBS rfl (fun _ => rfl)) rfl rfl ?_
      refine TrL.op (ok_call (fun hp => ct_oStratum _) (.s rfl (fun _ => rfl) rfl <| .nil)) rfl rfl ?_
      refine TrL.op (ok_move rfl (fun _ => rfl)) rfl rfl ?_
      refine TrL.op (ok_ext rfl (fun _ => rfl) rfl) rfl rfl ?_
      refine TrL.op (ok_ext rfl (fun _ => rfl) rfl) rfl rfl ?_
      refine TrL.op (ok_assign rfl (fun _ => rfl)) rfl rfl ?_
      refine TrL.op (ok_assign rfl (fun _ => rfl)) rfl rfl ?_
      refine TrL.fin ?_
      refine End.nxt ?_
      refine Tr.seq ?_
      refine Tr.rg ?_
      refine TrL.op (ok_ldBS rfl (fun _ => rfl)) rfl rfl ?_
      refine TrL.op (ok_call (fun hp => ct_oGenus _) (.s rfl (fun _ => rfl) rfl <| .nil)) rfl rfl ?_
      refine TrL.op (ok_move rfl (fun _ => rfl)) rfl rfl ?_
      refine TrL.op (ok_ext rfl (fun _ => rfl) rfl) rfl rfl ?_
      refine TrL.op (ok_ext rfl (fun _ => rfl) rfl) rfl rfl ?_
      refine TrL.op (ok_assign rfl (fun _ => rfl)) rfl rfl ?_
      refine TrL.op (ok_assign rfl (fun _ => rfl)) rfl rfl ?_
      refine TrL.fin ?_
      refine End.nxt ?_
      refine Tr.seq ?_
      refine Tr.rg ?_
      refine TrL.op (ok_ldBS rfl (fun _ => rfl)) rfl rfl ?_
      refine TrL.op (ok_call (fun hp => ct_oPeriods _) (.s rfl (fun _ => rfl) rfl <| .nil)) rfl rfl ?_
      refine TrL.op (ok_move rfl (fun _ => rfl)) rfl rfl ?_
      refine TrL.op (ok_ext rfl (fun _ => rfl) rfl) rfl rfl ?_
      refine TrL.op (ok_ext rfl (fun _ => rfl) rfl) rfl rfl ?_
      refine TrL.new (ok_alloc 11) rfl rfl rfl rfl ?_
      refine TrL.stB rfl rfl rfl rfl ?_
      refine TrL.op (ok_assign rfl (fun _ => rfl)) rfl rfl ?_
      refine TrL.fin ?_
      refine End.nxt ?_
      refine Tr.seq ?_
      refine Tr.rg ?_
      refine TrL.op (ok_ldBS rfl (fun _ => rfl)) rfl rfl ?_
      refine TrL.op (ok_move rfl (fun _ => rfl)) rfl rfl ?_
      refine TrL.op (ok_call (fun hp => ct_oCylinders _ _) (.s rfl (fun _ => rfl) rfl <| .a rfl (fun _ => rfl) <| .nil)) rfl rfl ?_
      refine TrL.op (ok_move rfl (fun _ => rfl)) rfl rfl ?_
      refine TrL.op (ok_ext rfl (fun _ => rfl) rfl) rfl rfl ?_
      refine TrL.op (ok_ext rfl (fun _ => rfl) rfl) rfl rfl ?_
      refine TrL.op (ok_assign rfl (fun _ => rfl)) rfl rfl ?_
      refine TrL.op (ok_assign rfl (fun _ => rfl)) rfl rfl ?_
      refine TrL.fin ?_
      refine End.nxt ?_
      refine Tr.seq ?_
      refine Tr.seq ?_
      refine Tr.rg ?_
      refine TrL.op (ok_move rfl (fun _ => rfl)) rfl rfl ?_
      refine TrL.op (ok_neq rfl (fun _ => rfl) rfl (fun _ => rfl)) rfl rfl ?_
      refine TrL.op (ok_move rfl (fun _ => rfl)) rfl rfl ?_
      refine TrL.gd rfl rfl rfl (ok_move rfl (fun _ => rfl)) rfl rfl ?_
      refine TrL.gd rfl rfl rfl (ok_neq rfl id rfl (fun _ => rfl)) rfl rfl ?_
      refine TrL.op (ok_or rfl (fun _ => rfl) rfl (fun hp h => gdF2 ((fun _ => rfl) hp) h)) rfl rfl ?_
      refine TrL.op (ok_move rfl (fun _ => rfl)) rfl rfl ?_
      refine TrL.gd rfl rfl rfl (ok_move rfl (fun _ => rfl)) rfl rfl ?_
      refine TrL.gd rfl rfl rfl (ok_neq rfl id rfl (fun _ => rfl)) rfl rfl ?_
      refine TrL.op (ok_or rfl (fun _ => rfl) rfl (fun hp h => gdF2 ((fun _ => rfl) hp) h)) rfl rfl ?_
      refine TrL.op (ok_move rfl (fun _ => rfl)) rfl rfl ?_
      refine TrL.gd rfl rfl rfl (ok_move rfl (fun _ => rfl)) rfl rfl ?_
      refine TrL.gd rfl rfl rfl (ok_neq rfl id rfl (fun _ => rfl)) rfl rfl ?_
      refine TrL.op (ok_or rfl (fun _ => rfl) rfl (fun hp h => gdF2 ((fun _ => rfl) hp) h)) rfl rfl ?_
      refine TrL.op (ok_move rfl (fun _ => rfl)) rfl rfl ?_
      refine TrL.gd rfl rfl rfl (ok_move rfl (fun _ => rfl)) rfl rfl ?_
      refine TrL.gd rfl rfl rfl (ok_neq rfl id rfl (fun _ => rfl)) rfl rfl ?_
      refine TrL.op (ok_or rfl (fun _ => rfl) rfl (fun hp h => gdF2 ((fun _ => rfl) hp) h)) rfl rfl ?_
      refine TrL.op (ok_move rfl (fun _ => rfl)) rfl rfl ?_
      refine TrL.gd rfl rfl rfl (ok_move rfl (fun _ => rfl)) rfl rfl ?_
      refine TrL.gd rfl rfl rfl (ok_lenJ rfl id) rfl rfl ?_
      refine TrL.gd rfl rfl rfl (ok_move rfl (fun _ => rfl)) rfl rfl ?_
      refine TrL.gd rfl rfl rfl (ok_lenJ rfl id) rfl rfl ?_
      refine TrL.gd rfl rfl rfl (ok_neq rfl id rfl id) rfl rfl ?_
      refine TrL.op (ok_or rfl (fun _ => rfl) rfl (fun hp h => gdF2 ((fun _ => rfl) hp) h)) rfl rfl ?_
      refine TrL.fin ?_
      refine End.nxt ?_
      refine Tr.cnd rfl ?_ ?_
      · intro h10
        simp [hc1, hc0, hsl] at h10
      · intro h10
        rw [if_pos hc1, if_pos hc1, if_pos hc1, if_pos hc0, if_pos hc0]
        refine Tr.skip ?_
        refine End.nxt ?_
        refine Tr.seq ?_
        refine Tr.rg ?_
        refine TrL.op (ok_assign rfl (fun _ => rfl)) rfl rfl ?_
        refine TrL.op (ok_assign rfl (fun _ => rfl)) rfl rfl ?_
        refine TrL.op (ok_assign rfl (fun _ => rfl)) rfl rfl ?_
        refine TrL.fin ?_
        refine End.nxt ?_
        refine Tr.seq ?_
        refine Tr.seq ?_
        refine Tr.rg ?_
        refine TrL.op (ok_assign rfl (fun _ => rfl)) rfl rfl ?_
        refine TrL.fin ?_
        refine End.nxt ?_
        refine Tr.for1 (σ := Nat) [⟨2, true, _, _⟩, ⟨5, true, _, _⟩, ⟨7, true, _, _⟩, ⟨9, true, _, _⟩, ⟨11, true, _, _⟩, ⟨13, true, _, _⟩, ⟨17, true, _, _⟩] [⟨2, _, _⟩, ⟨11, _, _⟩] (fun k => [⟨18, true, [], kI (k : Int)⟩, ⟨15, true, [], kI (sumTo (fun i => ((nth (vtx o) i).length : Int)) k)⟩, ⟨16, true, [], kI (sumTo (fun i => nth (stratL o) i) k)⟩]) (fun k => []) (fun k => k ≤ (vtx o).length) (fun k => k = (vtx o).length) (fun k => (vtx o).length - k) (0) (Nat.zero_le _) (Ent.mk (.i rfl (by first | rfl | omega | (simp; done) | (simp; omega) | assumption) <| .i rfl (by rfl) <| .i rfl (by rfl) <| .k rfl rfl <| .k rfl rfl <| .k rfl rfl <| .k rfl rfl <| .k rfl rfl <| .k rfl rfl <| .k rfl rfl <| .nil) (.k rfl <| .k rfl <| .nil) rfl) ?_ ?_
        · intro k hR0
          refine Tr.norm (S' := [⟨18, true, _, _⟩, ⟨15, true, _, _⟩, ⟨16, true, _, _⟩, ⟨2, true, _, _⟩, ⟨5, true, _, _⟩, ⟨7, true, _, _⟩, ⟨9, true, _, _⟩, ⟨11, true, _, _⟩, ⟨13, true, _, _⟩, ⟨17, true, _, _⟩]) (M' := [⟨2, _, _⟩, ⟨11, _, _⟩]) rfl rfl ?_
          refine Tr.seq ?_
          refine Tr.seq ?_
          refine Tr.rg ?_
          refine TrL.op (ok_move rfl (fun _ => rfl)) rfl rfl ?_
          refine TrL.op (ok_move rfl (fun _ => rfl)) rfl rfl ?_
          refine TrL.op (ok_lenJ rfl (fun _ => rfl)) rfl rfl ?_
          refine TrL.op (ok_lss rfl (fun _ => rfl) rfl (fun _ => rfl)) rfl rfl ?_
          refine TrL.fin ?_
          refine End.nxt ?_
          refine Tr.cnd rfl ?_ ?_
          · intro h14
            replace h14 := of_decide_eq_true h14
            have ha1 := ang_bd v (k := k) (by omega)
            have ha2 := ang_bd v (k := k + 1) (by omega)
            rw [sumTo_succ] at ha2
            have ho1 := ord_bd v (k := k) (by omega)
            have ho2 := ord_bd v (k := k + 1) (by omega)
            rw [sumTo_succ] at ho2
            refine Tr.skip ?_
            refine End.nxt ?_
            refine Tr.seq ?_
            refine Tr.blk ?_
            refine Tr.seq ?_
            refine Tr.rg ?_
            refine TrL.op (ok_move rfl (fun _ => rfl)) rfl rfl ?_
            refine TrL.op (ok_move rfl (fun _ => rfl)) rfl rfl ?_
            refine TrL.op (ok_move rfl (fun _ => rfl)) rfl rfl ?_
            first | refine TrL.op (ok_idxN rfl (fun _ => rfl) rfl (fun _ => rfl) rfl (fun _ => by omega)) rfl rfl ?_ | refine TrL.op (ok_idxP rfl (fun _ => rfl) rfl (fun _ => rfl) rfl (fun _ => by omega)) rfl rfl ?_
            refine TrL.op (ok_ldP rfl (fun _ => rfl) rfl) rfl rfl ?_
            refine TrL.op (ok_lenJ rfl (fun _ => rfl)) rfl rfl ?_
            refine TrL.op (ok_add rfl (fun _ => rfl) rfl (fun _ => rfl) (fun _ => by omega)) rfl rfl ?_
            refine TrL.op (ok_assign rfl (fun _ => rfl)) rfl rfl ?_
            refine TrL.fin ?_
            refine End.nxt ?_
            refine Tr.rg ?_
            refine TrL.op (ok_move rfl (fun _ => rfl)) rfl rfl ?_
            refine TrL.op (ok_move rfl (fun _ => rfl)) rfl rfl ?_
            refine TrL.op (ok_move rfl (fun _ => rfl)) rfl rfl ?_
            first | refine TrL.op (ok_idxN rfl (fun _ => rfl) rfl (fun _ => rfl) rfl (fun _ => by omega)) rfl rfl ?_ | refine TrL.op (ok_idxP rfl (fun _ => rfl) rfl (fun _ => rfl) rfl (fun _ => by omega)) rfl rfl ?_
            refine TrL.op (ok_ldP rfl (fun _ => rfl) rfl) rfl rfl ?_
            refine TrL.op (ok_add rfl (fun _ => rfl) rfl (fun _ => rfl) (fun _ => by omega)) rfl rfl ?_
            refine TrL.op (ok_assign rfl (fun _ => rfl)) rfl rfl ?_
            refine TrL.fin ?_
            refine End.blk ?_
            refine End.nxt ?_
            refine Tr.rg ?_
            refine TrL.op (ok_move rfl (fun _ => rfl)) rfl rfl ?_
            refine TrL.op (ok_add rfl (fun _ => rfl) rfl (fun _ => rfl) (fun _ => by omega)) rfl rfl ?_
            refine TrL.op (ok_assign rfl (fun _ => rfl)) rfl rfl ?_
            refine TrL.fin ?_
            exact End.lp (k + 1) (by first | rfl | omega | (simp; done) | (simp; omega) | assumption) (by omega) (Ent.mk (.i rfl (by first | rfl | omega | (simp; done) | (simp; omega) | assumption) <| .i rfl (by rfl) <| .i rfl (by rfl) <| .k rfl rfl <| .k rfl rfl <| .k rfl rfl <| .k rfl rfl <| .k rfl rfl <| .k rfl rfl <| .k rfl rfl <| .nil) (.k rfl <| .k rfl <| .nil) rfl)
          · intro h14
            replace h14 := Int.not_lt.1 (of_decide_eq_false h14)
            refine Tr.exit ?_
            refine Exs.thn ?_
            refine Exs.thn ?_
            refine Exs.here ?_
            exact End.cut (k) (by omega) (Ent.mk (.i rfl (by first | rfl | omega | (simp; done) | (simp; omega) | assumption) <| .i rfl (by first | rfl | omega | (simp; done) | (simp; omega) | assumption) <| .i rfl (by first | rfl | omega | (simp; done) | (simp; omega) | assumption) <| .k rfl rfl <| .k rfl rfl <| .k rfl rfl <| .k rfl rfl <| .k rfl rfl <| .k rfl rfl <| .k rfl rfl <| .nil) (.k rfl <| .k rfl <| .nil) rfl)
        · rintro _ rfl
          refine End.norm (S' := [⟨18, true, _, _⟩, ⟨15, true, _, _⟩, ⟨16, true, _, _⟩, ⟨2, true, _, _⟩, ⟨5, true, _, _⟩, ⟨7, true, _, _⟩, ⟨9, true, _, _⟩, ⟨11, true, _, _⟩, ⟨13, true, _, _⟩, ⟨17, true, _, _⟩]) (M' := [⟨2, _, _⟩, ⟨11, _, _⟩]) rfl rfl ?_
          refine End.nxt ?_
          refine Tr.seq ?_
          refine Tr.seq ?_
          refine Tr.rg ?_
          refine TrL.op (ok_assign rfl (fun _ => rfl)) rfl rfl ?_
          refine TrL.fin ?_
          refine End.nxt ?_
          refine Tr.for1 (σ := Nat) [⟨2, true, _, _⟩, ⟨9, true, _, _⟩, ⟨11, true, _, _⟩, ⟨13, true, _, _⟩, ⟨15, true, _, _⟩, ⟨16, true, _, _⟩] [⟨2, _, _⟩, ⟨11, _, _⟩] (fun j => [⟨19, true, [], kI (j : Int)⟩, ⟨17, true, [], kI (areaT (cylL o m) j)⟩]) (fun j => []) (fun j => j ≤ (cylL o m).length) (fun j => j = (cylL o m).length) (fun j => (cylL o m).length - j) (0) (Nat.zero_le _) (Ent.mk (.i rfl (by first | rfl | omega | (simp; done) | (simp; omega) | assumption) <| .i rfl (by rfl) <| .k rfl rfl <| .k rfl rfl <| .k rfl rfl <| .k rfl rfl <| .k rfl rfl <| .k rfl rfl <| .nil) (.k rfl <| .k rfl <| .nil) rfl) ?_ ?_
          · intro j hR1
            refine Tr.norm (S' := [⟨19, true, _, _⟩, ⟨17, true, _, _⟩, ⟨2, true, _, _⟩, ⟨9, true, _, _⟩, ⟨11, true, _, _⟩, ⟨13, true, _, _⟩, ⟨15, true, _, _⟩, ⟨16, true, _, _⟩]) (M' := [⟨2, _, _⟩, ⟨11, _, _⟩]) rfl rfl ?_
            refine Tr.seq ?_
            refine Tr.seq ?_
            refine Tr.rg ?_
            refine TrL.op (ok_move rfl (fun _ => rfl)) rfl rfl ?_
            refine TrL.op (ok_move rfl (fun _ => rfl)) rfl rfl ?_
            refine TrL.op (ok_lenJ rfl (fun _ => rfl)) rfl rfl ?_
            refine TrL.op (ok_lss rfl (fun _ => rfl) rfl (fun _ => rfl)) rfl rfl ?_
            refine TrL.fin ?_
            refine End.nxt ?_
            refine Tr.cnd rfl ?_ ?_
            · intro h19
              replace h19 := of_decide_eq_true h19
              have hb1 := cyl_bd v (m := m) (i := j) (by omega)
              have hr1 := area_bd v (m := m) (k := j) (by omega)
              refine Tr.skip ?_
              refine End.nxt ?_
              refine Tr.seq ?_
              refine Tr.blk ?_
              refine Tr.draw 12 mixed (by kernel_rfl) ?_
              refine RunD.op (ok_move rfl (fun _ => rfl)) rfl rfl ?_
              refine RunD.op (ok_move rfl (fun _ => rfl)) rfl rfl ?_
              refine RunD.op (ok_move rfl (fun _ => rfl)) rfl rfl ?_
              first | refine RunD.op (ok_idxN rfl (fun _ => rfl) rfl (fun _ => rfl) rfl (fun _ => by omega)) rfl rfl ?_ | refine RunD.op (ok_idxP rfl (fun _ => rfl) rfl (fun _ => rfl) rfl (fun _ => by omega)) rfl rfl ?_
              refine RunD.op (ok_fldP rfl (fun _ => rfl) rfl) rfl rfl ?_
              refine RunD.op (ok_ldP rfl (fun _ => rfl) rfl) rfl rfl ?_
              refine RunD.op (ok_move rfl (fun _ => rfl)) rfl rfl ?_
              refine RunD.op (ok_move rfl (fun _ => rfl)) rfl rfl ?_
              first | refine RunD.op (ok_idxN rfl (fun _ => rfl) rfl (fun _ => rfl) rfl (fun _ => by omega)) rfl rfl ?_ | refine RunD.op (ok_idxP rfl (fun _ => rfl) rfl (fun _ => rfl) rfl (fun _ => by omega)) rfl rfl ?_
              refine RunD.op (ok_fldP rfl (fun _ => rfl) rfl) rfl rfl ?_
              refine RunD.op (ok_ldP rfl (fun _ => rfl) rfl) rfl rfl ?_
              refine RunD.op (ok_mul rfl (fun _ => rfl) rfl (fun _ => rfl) (fun _ => by omega)) rfl rfl ?_
              refine RunD.z ?_
              refine TrL.op (ok_add rfl (fun _ => rfl) rfl (fun _ => rfl) (fun _ => by omega)) rfl rfl ?_
              refine TrL.op (ok_assign rfl (fun _ => rfl)) rfl rfl ?_
              refine TrL.fin ?_
              refine End.blk ?_
              refine End.nxt ?_
              refine Tr.rg ?_
              refine TrL.op (ok_move rfl (fun _ => rfl)) rfl rfl ?_
              refine TrL.op (ok_add rfl (fun _ => rfl) rfl (fun _ => rfl) (fun _ => by omega)) rfl rfl ?_
              refine TrL.op (ok_assign rfl (fun _ => rfl)) rfl rfl ?_
              refine TrL.fin ?_
              exact End.lp (j + 1) (by first | rfl | omega | (simp; done) | (simp; omega) | assumption) (by omega) (Ent.mk (.i rfl (by first | rfl | omega | (simp; done) | (simp; omega) | assumption) <| .i rfl (by rfl) <| .k rfl rfl <| .k rfl rfl <| .k rfl rfl <| .k rfl rfl <| .k rfl rfl <| .k rfl rfl <| .nil) (.k rfl <| .k rfl <| .nil) rfl)
            · intro h19
              replace h19 := Int.not_lt.1 (of_decide_eq_false h19)
              refine Tr.exit ?_
              refine Exs.thn ?_
              refine Exs.thn ?_
              refine Exs.here ?_
              exact End.cut (j) (by omega) (Ent.mk (.i rfl (by first | rfl | omega | (simp; done) | (simp; omega) | assumption) <| .i rfl (by first | rfl | omega | (simp; done) | (simp; omega) | assumption) <| .k rfl rfl <| .k rfl rfl <| .k rfl rfl <| .k rfl rfl <| .k rfl rfl <| .k rfl rfl <| .nil) (.k rfl <| .k rfl <| .nil) rfl)
          · rintro _ rfl
            refine End.norm (S' := [⟨19, true, _, _⟩, ⟨17, true, _, _⟩, ⟨2, true, _, _⟩, ⟨9, true, _, _⟩, ⟨11, true, _, _⟩, ⟨13, true, _, _⟩, ⟨15, true, _, _⟩, ⟨16, true, _, _⟩]) (M' := [⟨2, _, _⟩, ⟨11, _, _⟩]) rfl rfl ?_
            have hla := lat_bd v cn
            have han := ang_all v
            have hor := ord_bd v (k := (vtx o).length) (Nat.le_refl _)
            have heu : sumTo (fun i => nth (stratL o) i) (vtx o).length = 2 * genF o - 2 := by rw [← hsl]; exact euler v
            have har := cyl_area v (m := m)
            have hz := hla.2.2.2.2.2.2
            refine End.nxt ?_
            refine Tr.seq ?_
            refine Tr.rg ?_
            refine TrL.op (ok_ldBS rfl (fun _ => rfl)) rfl rfl ?_
            refine TrL.op (ok_call (fun hp => ct_rSize _) (.s rfl (fun _ => rfl) rfl <| .nil)) rfl rfl ?_
            refine TrL.op (ok_assign rfl (fun _ => rfl)) rfl rfl ?_
            refine TrL.fin ?_
            refine End.nxt ?_
            refine Tr.seq ?_
            refine Tr.rg ?_
            refine TrL.op (ok_move rfl (fun _ => rfl)) rfl rfl ?_
            refine TrL.op (ok_move rfl (fun _ => rfl)) rfl rfl ?_
            refine TrL.op (ok_eql rfl (fun _ => rfl) rfl (fun _ => rfl)) rfl rfl ?_
            refine TrL.op (ok_move rfl (fun _ => rfl)) rfl rfl ?_
            refine TrL.gd rfl rfl rfl (ok_move rfl (fun _ => rfl)) rfl rfl ?_
            refine TrL.gd rfl rfl rfl (ok_move rfl (fun _ => rfl)) rfl rfl ?_
            refine TrL.gd rfl rfl rfl (ok_mul rfl (fun _ => rfl) rfl id (fun hp => by simp at hp; omega)) rfl rfl ?_
            refine TrL.gd rfl rfl rfl (ok_sub rfl id rfl (fun _ => rfl) (fun hp => by simp at hp; omega)) rfl rfl ?_
            refine TrL.gd rfl rfl rfl (ok_eql rfl id rfl id) rfl rfl ?_
            refine TrL.op (ok_and rfl (fun _ => rfl) rfl (fun hp h => gdT2 ((fun _ => rfl) hp) h)) rfl rfl ?_
            refine TrL.op (ok_move rfl (fun _ => rfl)) rfl rfl ?_
            refine TrL.gd rfl rfl rfl (ok_move rfl (fun _ => rfl)) rfl rfl ?_
            refine TrL.gd rfl rfl rfl (ok_move rfl (fun _ => rfl)) rfl rfl ?_
            refine TrL.gd rfl rfl rfl (ok_eql rfl id rfl id) rfl rfl ?_
            refine TrL.op (ok_and rfl (fun _ => rfl) rfl (fun hp h => gdT2 ((fun _ => rfl) hp) h)) rfl rfl ?_
            refine TrL.op (ok_move rfl (fun _ => rfl)) rfl rfl ?_
            refine TrL.gd rfl rfl rfl (ok_fldO rfl (fun _ => rfl)) rfl rfl ?_
            refine TrL.gd rfl rfl rfl (ok_ldB rfl id rfl) rfl rfl ?_
            refine TrL.gd rfl rfl rfl (ok_gtr rfl id rfl (fun _ => rfl)) rfl rfl ?_
            refine TrL.op (ok_and rfl (fun _ => rfl) rfl (fun hp h => gdT2 ((fun _ => rfl) hp) h)) rfl rfl ?_
            refine TrL.op (ok_move rfl (fun _ => rfl)) rfl rfl ?_
            refine TrL.gd rfl rfl rfl (ok_fldO rfl (fun _ => rfl)) rfl rfl ?_
            refine TrL.gd rfl rfl rfl (ok_ldB rfl id rfl) rfl rfl ?_
            refine TrL.gd rfl rfl rfl (ok_gtr rfl id rfl (fun _ => rfl)) rfl rfl ?_
            refine TrL.op (ok_and rfl (fun _ => rfl) rfl (fun hp h => gdT2 ((fun _ => rfl) hp) h)) rfl rfl ?_
            refine TrL.op (ok_move rfl (fun _ => rfl)) rfl rfl ?_
            refine TrL.gd rfl rfl rfl (ok_move rfl (fun _ => rfl)) rfl rfl ?_
            refine TrL.gd rfl rfl rfl (ok_fldO rfl (fun _ => rfl)) rfl rfl ?_
            refine TrL.gd rfl rfl rfl (ok_ldB rfl id rfl) rfl rfl ?_
            refine TrL.gd rfl rfl rfl (ok_fldO rfl (fun _ => rfl)) rfl rfl ?_
            refine TrL.gd rfl rfl rfl (ok_ldB rfl id rfl) rfl rfl ?_
            refine TrL.gd rfl rfl rfl (ok_mul rfl id rfl id (fun hp => by simp at hp; omega)) rfl rfl ?_
            refine TrL.gd rfl rfl rfl (ok_rem rfl id rfl id (fun hp => by simp at hp; omega)) rfl rfl ?_
            refine TrL.gd rfl rfl rfl (ok_eql rfl id rfl (fun _ => rfl)) rfl rfl ?_
            refine TrL.op (ok_and rfl (fun _ => rfl) rfl (fun hp h => gdT2 ((fun _ => rfl) hp) h)) rfl rfl ?_
            refine TrL.op (ok_assign rfl (fun _ => rfl)) rfl rfl ?_
            refine TrL.fin ?_
            refine End.nxt ?_
            refine Tr.ret ?_
            exact Rts.res1 (fn := Try.f4) rfl (.b rfl (by simp [han, heu, har, hla.1, hla.2.1, hz]) <| .nil)

end Go.Fl

/- THE LAW OrigamiEuler HOLDS FOR EVERY INPUT: whatever the arguments, the call returns true, and each argument reads behind it as before. Conditions: those of the given row (its listed variables as the program lays them). -/
namespace Go.Proofs.Ytpbcelfhhpafeaa
open Go Go.Fl Go.RowKit Go.ChangeShapes Go.WideShapes Go.ChangeAt

theorem rdt22 : RdT Try.prog 22 (eL eI) (ListP (okI .i64)) := RdT.slice RdT.int rfl rfl rfl
theorem rdt24t : RdT Try.prog 24 (eP (eL eI) (eP (eL eI) eU)) (AndP (ListP (okI .i64)) (AndP (ListP (okI .i64)) UnitP)) := by
  refine RdT.struct (l := [_, _]) Try.underlying24 rfl (by kernel_rfl) ?_
  refine FldT.cons rdt22 (by rfl) (by rfl) (by rfl) ?_
  refine FldT.cons rdt22 (by rfl) (by rfl) (by rfl) ?_
  exact FldT.nil
theorem rdt24 : RdT Try.prog 24 eO (fun o : Ori => ListP (okI .i64) o.1 ∧ ListP (okI .i64) o.2) := RdT.conv rdt24t (fun x => ((x.1, x.2.1) : Ori)) (fun _ _ _ h => h) (fun _ h => ⟨h.1, h.2.1⟩)
theorem own : ownKnob Try.prog.godebug = none := by kernel_rfl
set_option maxRecDepth 100000 in
theorem lifted0 (os : Os) (started : os.Started) (H : Type) (enc : TypeId × Value → H) :
    ReturnsInHanded {} Try.checked os 4 .any (fun w args => (Rows.origamiEulerSpec.pre enc Try.prog Try.f4 [] false w args ∧ True) ∧ sizedMet enc Try.prog Try.f4 (OpenSpec.ofChange Rows.origamiEulerSpec) false w args)
      (Rows.origamiEulerSpec.post enc Try.prog Try.f4 false true false false) := by
  refine returnsInHanded_of_change_and (C := Try.checked) (X := fun _ _ => True) (fun _ _ _ _ h => h) own started (by kernel_rfl) Try.func4
    (ChangeSpec.witness_shaped (enc := enc) (C := Try.checked) (os := os) (X := fun _ _ => True) false (World.laidAll Try.prog os Rows.origamiEulerRow.laid) #[.agg #[.slice none 0 0, .slice none 0 0], .bool false] 8 (World.laidAll_os _ _ _)
      (World.shaped_of_ZipB (by kernel_rfl) (by kernel_rfl)) (by kernel_rfl) (by kernel_rfl) (by kernel_rfl)
      trivial) ?_
  intro W base args ds gs before hval0 hW _ hwt hL _
  have hval : ∀ (j : Nat) t v, Try.f4.params[j]? = some t → args[j]? = some v → Value.okWide Try.prog W .any base t v := hval0
  have hpost : ∀ W', Fl.Below W.heap.size W W' → Rows.origamiEulerSpec.post enc Try.prog Try.f4 false true false false W args (.bool true) W' := fun W' hb => law_post (by kernel_rfl) (by kernel_rfl) (by kernel_rfl) hW (by kernel_rfl) rfl (fun hg => by
    subst hg
    obtain ⟨p, q, hA0, _⟩ := hW
    have hA : DataW.TrodAll enc Try.prog W 0 (fun _ => true) true Try.f4.params.toList args.toList ds p := hA0
    rw [Try.params4] at hA
    obtain ⟨v0, v1, d0, d1, _, _, rfl, rfl, _, _, _⟩ := trodAll_two hA
    rfl) rfl Try.underlying4 hb
  have hW0 := hW
  obtain ⟨p, q, hA0, hV, rfl, _, _⟩ := hW0
  have hA : DataW.TrodAll enc Try.prog W 0 (fun _ => true) true Try.f4.params.toList args.toList ds p := hA0
  rw [Try.params4] at hA hval hwt
  obtain ⟨rfl, rfl⟩ := trodVars_none hV
  obtain ⟨v0, v1, d0, d1, _, _, rfl, rfl, _, h0, h1⟩ := trodAll_two hA
  have hwt' : (DataW.weightsEach Try.prog [24, 4] [d0, d1]).all (· ≤ reachBytes) = true := hwt
  have w0 := weights_cons hwt'
  have w1 := weights_cons w0.2
  obtain ⟨x0, k0, r0⟩ := RdT.val (by exact rdt24 : RdT Try.prog 24 eO (fun o : Ori => ListP (okI .i64) o.1 ∧ ListP (okI .i64) o.2)) rfl (hval 0 24 v0 rfl rfl) h0 w0.1
  obtain ⟨x1, k1, r1⟩ := RdT.val (by exact RdT.bool : RdT Try.prog 4 eBool BoolP) rfl (hval 1 4 v1 rfl rfl) h1 w1.1
  refine Ct.law (vs := #[v0, v1]) (ct_OrigamiEuler x0 x1) ?_ fun W' hb => ⟨_, rfl, hpost W' hb⟩
  exact ⟨k0, (kB_rd k1), trivial⟩
theorem lifted (os : Os) (started : os.Started) (H : Type) (enc : TypeId × Value → H) :
    ReturnsInHanded {} Try.checked os 4 .any (fun w args => Rows.origamiEulerSpec.pre enc Try.prog Try.f4 [] false w args ∧ sizedMet enc Try.prog Try.f4 (OpenSpec.ofChange Rows.origamiEulerSpec) false w args)
      (Rows.origamiEulerSpec.post enc Try.prog Try.f4 false true false false) := by
  have h := lifted0 os started H enc
  simp only [and_true] at h
  exact h
theorem holds : Rows.origamiEulerRow.holds Try.pinned (OpenSpec.ofChange Rows.origamiEulerSpec) :=
  OpenClaim.holds_of_wide 4 Try.f4 rfl rfl rfl rfl rfl rfl rfl ⟨rfl, rfl, rfl, rfl, rfl⟩ rfl rfl rfl rfl rfl (by kernel_rfl) Try.func4 (by kernel_rfl)
    (of_decide_eq_true (by kernel_rfl)) (by unfold Func.isWrapper; first | (rw [if_pos (by decide +kernel)]; kernel_rfl) | (rw [if_neg (by decide +kernel)]; exact ⟨rfl, rfl⟩))
    (fun os started H enc _ => lifted os started H enc)
theorem origamiEuler_holds : Rows.OrigamiEulerSaid := holds
end Go.Proofs.Ytpbcelfhhpafeaa
