/- THE LAW OrigamiCylinders HOLDS FOR EVERY INPUT: whatever the arguments, the call returns true, and each argument reads behind it as before. Conditions: those of the given row (its listed variables as the program lays them). -/
import Derived.Test.YtpbcelfhhpafeaaGreatM4
import Derived.Test.YtpbcelfhhpafeaaGreatRows

/- Cylinders: the bands of the reference, and how the program's bands are these. Plain Lean, no program in sight. -/
namespace Go.Fl
def stopR (o : Ori) (m : Bool) (x : Int) (i : Nat) : Bool := (m || posR o (rowU o x i)) || decide (x ∈ rowU o x i)
def hRF (o : Ori) (m : Bool) (x : Int) : Nat → Nat → Nat
  | 0, i => i
  | f + 1, i => if stopR o m x i = true then i else hRF o m x f (i + 1)
def hgR (o : Ori) (m : Bool) (x : Int) : Nat := hRF o m x o.1.length 1
def bandR (o : Ori) (m : Bool) (x : Int) : BandT := ((per o.1 x : Int), ((hgR o m x : Nat) : Int), rowsT o x (hgR o m x))
theorem hRF_at {o : Ori} {m : Bool} {x : Int} {i : Nat} (hs : stopR o m x i = true) : ∀ {f a : Nat}, a ≤ i → i ≤ a + f → (∀ j, a ≤ j → j < i → stopR o m x j = false) → hRF o m x f a = i
  | 0, a, h1, h2, _ => by unfold hRF; omega
  | f + 1, a, h1, h2, h => by
    unfold hRF
    by_cases e : a = i
    · subst e; rw [if_pos hs]
    · rw [if_neg (by rw [h a (Nat.le_refl _) (by omega)]; simp)]
      exact hRF_at hs (by omega) (by omega) fun j hj hlt => h j (by omega) hlt
theorem posR_same {o : Ori} (v : Valid o) {x y : Int} (hx : Sq o.1.length x) (hy : y ∈ orb o.1 x) : posR o (orb o.1 y) = posR o (orb o.1 x) := by
  have hys := v.pR.orb_rng hx hy
  rw [Bool.eq_iff_iff]
  unfold posR
  rw [List.any_eq_true, List.any_eq_true]
  exact ⟨fun ⟨z, h1, h2⟩ => ⟨z, v.pR.orb_trans hx hy h1, h2⟩, fun ⟨z, h1, h2⟩ => ⟨z, v.pR.orb_trans hys (v.pR.orb_symm hx hy) h1, h2⟩⟩
/-- The square below one of a row on a line without vertices. -/
theorem row_down {o : Ori} (v : Valid o) {x y : Int} (hx : Sq o.1.length x) {i : Nat} (hp : posR o (rowU o x (i + 1)) = false) (hy : y ∈ rowU o x (i + 1)) : ap (invL o.2) y ∈ rowU o x i := by
  rw [← rowU_next v hx (by rw [rowU_pos v hx]; exact hp)] at hy
  obtain ⟨z, h1, rfl⟩ := (mem_abvL v).1 hy
  rw [v.pU.inv_ap (rowU_sq v hx z h1)]; exact h1
/-- The square above one, where the row above is on a line without vertices. -/
theorem row_up {o : Ori} (v : Valid o) {x y : Int} (hx : Sq o.1.length x) {i : Nat} (hp : posR o (rowU o x (i + 1)) = false) (hy : y ∈ rowU o x i) : ap o.2 y ∈ rowU o x (i + 1) := by
  rw [← rowU_next v hx (by rw [rowU_pos v hx]; exact hp)]
  exact (mem_abvL v).2 ⟨y, hy, rfl⟩
theorem row_pos_up {o : Ori} (v : Valid o) {x y : Int} (hx : Sq o.1.length x) {i : Nat} (hy : y ∈ rowU o x i) : posR o (orb o.1 (ap o.2 y)) = posR o (rowU o x (i + 1)) := by
  have hys := rowU_sq v hx y hy
  have hxi := v.pU.its hx i
  rw [← abv_pos v hys, ← rowU_pos v hx, Bool.eq_iff_iff]
  unfold posR
  rw [List.any_eq_true, List.any_eq_true]
  constructor
  · rintro ⟨z, h1, h2⟩
    obtain ⟨w, h3, rfl⟩ := (mem_abvL v).1 h1
    exact ⟨_, (mem_abvL v).2 ⟨w, v.pR.orb_trans hxi hy h3, rfl⟩, h2⟩
  · rintro ⟨z, h1, h2⟩
    obtain ⟨w, h3, rfl⟩ := (mem_abvL v).1 h1
    exact ⟨_, (mem_abvL v).2 ⟨w, v.pR.orb_trans hys (v.pR.orb_symm hxi hy) h3, rfl⟩, h2⟩
/-- What is known of one band: its first square x, its height h. -/
structure BdR (o : Ori) (m : Bool) (x : Int) (h : Nat) : Prop where
  v : Valid o
  hx : Sq o.1.length x
  lo : ∀ y ∈ orb o.1 x, x ≤ y
  h1 : 1 ≤ h
  go : ∀ j, 1 ≤ j → j < h → (m || posR o (rowU o x j)) = false
  st : (m || posR o (rowU o x h)) = true ∨ x ∈ rowU o x h
  nd : (rowsT o x h).flatten.Nodup
  kd : (m || posR o (rowU o x 0)) = true ∨ (m = false ∧ (∀ j, posR o (rowU o x j) = false) ∧ x ∈ rowU o x h ∧ ∀ y ∈ (rowsT o x h).flatten, x ≤ y)
theorem BdR.sep {o : Ori} {m : Bool} {x : Int} {h : Nat} (b : BdR o m x h) {i j : Nat} (hi : i < h) (hj : j < h) {y : Int} (h1 : y ∈ rowU o x i) (h2 : y ∈ rowU o x j) : i = j := by
  have e : ∀ {k : Nat}, k < h → nth (rowsT o x h) k = rowU o x k := fun hk => nth_tab hk
  exact row_uniq b.nd (by rw [rowsT_len]; exact hi) (by rw [rowsT_len]; exact hj) (by rw [e hi]; exact h1) (by rw [e hj]; exact h2)
theorem BdR.le {o : Ori} {m : Bool} {x : Int} {h : Nat} (b : BdR o m x h) : h ≤ o.1.length := by
  have h1 : Good o.1.length (rowsT o x h).flatten := ⟨b.nd, fun y hy => by
    obtain ⟨i, _, h2⟩ := mem_rows.1 hy
    exact rowU_sq b.v b.hx y h2⟩
  have h2 := h1.len
  have h3 := rows_many b.v b.hx (i := h)
  omega
theorem BdR.band {o : Ori} {m : Bool} {x : Int} {h : Nat} (b : BdR o m x h) : hgR o m x = h := by
  refine hRF_at ?_ b.h1 (by have := b.le; omega) fun j h1 h2 => ?_
  · unfold stopR
    rcases b.st with h | h
    · rw [h, Bool.true_or]
    · rw [decide_eq_true h, Bool.or_true]
  · unfold stopR
    rw [b.go j h1 h2, Bool.false_or, decide_eq_false]
    intro hm
    have hx0 : x ∈ rowU o x 0 := b.v.pR.orb_self b.hx
    have := b.sep (by have := b.h1; omega) h2 hx0 hm
    omega
/-! ### The program's bands -/
structure CyI (o : Ori) (m : Bool) (st : CySt) : Prop where
  ok : CyOk o m st
  dn : m = false → ∀ y ∈ st.1, posR o (orb o.1 y) = false → ap (invL o.2) y ∈ st.1
  up : m = false → ∀ y ∈ st.1, posR o (orb o.1 (ap o.2 y)) = false → ap o.2 y ∈ st.1
  bd : ∀ b ∈ st.2, ∃ x h, BdR o m x h ∧ b = ((per o.1 x : Int), ((h : Nat) : Int), rowsT o x h)
theorem CyI.nil {o : Ori} {m : Bool} (v : Valid o) : CyI o m ([], []) := ⟨CyOk.nil v, fun _ _ h => (by cases h), fun _ _ h => (by cases h), fun _ h => (by cases h)⟩
/-- Where a band stops. -/
theorem CyI.stop {o : Ori} {m : Bool} {st : CySt} (c : CyI o m st) {x : Int} (hx : Sq o.1.length x) (hm : x ∉ st.1) {i : Nat} (hi : 1 ≤ i) (hs : ∀ j, 1 ≤ j → j < i → stopB o m st.1 x j = false) (hp : (m || posR o (rowU o x i)) = false) (hmem : it o.2 i x ∈ st.1 ++ (rowsT o x i).flatten) : x ∈ rowU o x i := by
  have v := c.ok.gs.v
  obtain ⟨hm0, hp0⟩ := Bool.or_eq_false_iff.1 hp
  obtain ⟨i, rfl⟩ : ∃ k, i = k + 1 := ⟨i - 1, by omega⟩
  have hxi := v.pU.its hx i
  have hback : ap (invL o.2) (it o.2 (i + 1) x) = it o.2 i x := v.pU.inv_ap hxi
  have hno : it o.2 i x ∉ st.1 ++ (rowsT o x i).flatten := by
    rcases Nat.eq_zero_or_pos i with rfl | h0
    · simpa [rowsT, tab, it] using hm
    · exact (stop_mem (hs i h0 (by omega))).1
  rcases List.mem_append.1 hmem with h | h
  · have := c.dn hm0 _ h hp0
    rw [hback] at this
    exact absurd (List.mem_append.2 (.inl this)) hno
  · obtain ⟨j, hj, hm2⟩ := mem_rows.1 h
    rcases Nat.eq_zero_or_pos j with rfl | h0
    · exact v.pR.orb_symm hx hm2
    · obtain ⟨j, rfl⟩ : ∃ k, j = k + 1 := ⟨j - 1, by omega⟩
      have h3 := (Bool.or_eq_false_iff.1 (stop_mem (hs (j + 1) h0 (by omega))).2).2
      have h4 := row_down v hx h3 hm2
      rw [hback] at h4
      exact absurd (List.mem_append.2 (.inr (mem_rows.2 ⟨j, by omega, h4⟩))) hno
theorem CyI.st {o : Ori} {m : Bool} {st : CySt} (c : CyI o m st) {x : Int} (hx : Sq o.1.length x) (hm : x ∉ st.1) : (m || posR o (rowU o x (hgt o m st.1 x))) = true ∨ x ∈ rowU o x (hgt o m st.1 x) := by
  obtain ⟨h1, h2, h3⟩ := c.ok.gs.stops hx hm (m := m)
  cases hb : (m || posR o (rowU o x (hgt o m st.1 x))) with
  | true => exact .inl rfl
  | false =>
    refine .inr (c.stop hx hm h1 h2 hb ?_)
    unfold stopB at h3
    rw [hb, Bool.false_or] at h3
    exact of_decide_eq_true h3
theorem CyI.go {o : Ori} {m : Bool} {st : CySt} (c : CyI o m st) {x : Int} (hx : Sq o.1.length x) (hm : x ∉ st.1) : ∀ j, 1 ≤ j → j < hgt o m st.1 x → (m || posR o (rowU o x j)) = false := fun j h1 h2 =>
  (stop_mem ((c.ok.gs.stops hx hm (m := m)).2.1 j h1 h2)).2
theorem CyI.nd {o : Ori} {m : Bool} {st : CySt} (c : CyI o m st) {x : Int} (hx : Sq o.1.length x) (hm : x ∉ st.1) : (rowsT o x (hgt o m st.1 x)).flatten.Nodup :=
  (List.nodup_append.1 (c.ok.gs.rows hx hm (c.ok.gs.stops hx hm (m := m)).2.1).g.nodup).2.1
theorem CyI.row {o : Ori} {m : Bool} {st : CySt} (c : CyI o m st) {x : Int} (hx : Sq o.1.length x) (hm : x ∉ st.1) (hp : m = false → posR o (rowU o x 0) = true ∨ x ∈ rowU o x (hgt o m st.1 x)) (lo : ∀ y ∈ orb o.1 x, x ≤ y)
    (kd : (m || posR o (rowU o x 0)) = true ∨ (m = false ∧ (∀ j, posR o (rowU o x j) = false) ∧ x ∈ rowU o x (hgt o m st.1 x) ∧ ∀ y ∈ (rowsT o x (hgt o m st.1 x)).flatten, x ≤ y)) : CyI o m (grw o m st x) := by
  have v := c.ok.gs.v
  have hst := c.st hx hm
  have hgo := c.go hx hm
  have h1 := (c.ok.gs.stops hx hm (m := m)).1
  have hbd : BdR o m x (hgt o m st.1 x) := ⟨v, hx, lo, h1, hgo, hst, c.nd hx hm, kd⟩
  generalize hh : hgt o m st.1 x = h at *
  have e1 : (grw o m st x).1 = st.1 ++ (rowsT o x h).flatten := by unfold grw; rw [hh]
  have e2 : (grw o m st x).2 = st.2 ++ [((per o.1 x : Int), ((h : Nat) : Int), rowsT o x h)] := by unfold grw bandG; rw [hh]
  refine ⟨c.ok.grw hx hm, fun hm0 y hy hpy => ?_, fun hm0 y hy hpy => ?_, fun b hb => ?_⟩
  · rw [e1] at hy ⊢
    rcases List.mem_append.1 hy with hy | hy
    · exact List.mem_append.2 (.inl (c.dn hm0 y hy hpy))
    · obtain ⟨j, hj, hy⟩ := mem_rows.1 hy
      have hpj : posR o (rowU o x j) = false := (posR_same v (v.pU.its hx j) hy).symm.trans hpy
      refine List.mem_append.2 (.inr ?_)
      rcases Nat.eq_zero_or_pos j with rfl | h0
      · have hxh : x ∈ rowU o x h := (hp hm0).resolve_left (by rw [hpj]; simp)
        have hyh : y ∈ rowU o x h := v.pR.orb_trans (v.pU.its hx h) hxh hy
        have hph : posR o (rowU o x h) = false := (posR_same v (v.pU.its hx h) hyh).symm.trans hpy
        obtain ⟨q, rfl⟩ : ∃ q, h = q + 1 := ⟨h - 1, by omega⟩
        exact mem_rows.2 ⟨q, by omega, row_down v hx hph hyh⟩
      · obtain ⟨j, rfl⟩ : ∃ k, j = k + 1 := ⟨j - 1, by omega⟩
        exact mem_rows.2 ⟨j, by omega, row_down v hx hpj hy⟩
  · rw [e1] at hy ⊢
    rcases List.mem_append.1 hy with hy | hy
    · exact List.mem_append.2 (.inl (c.up hm0 y hy hpy))
    · obtain ⟨j, hj, hy⟩ := mem_rows.1 hy
      have hpj : posR o (rowU o x (j + 1)) = false := by rw [← row_pos_up v hx hy]; exact hpy
      have hyu := row_up v hx hpj hy
      refine List.mem_append.2 (.inr ?_)
      by_cases e : j + 1 = h
      · rw [e] at hyu hpj
        have hxh : x ∈ rowU o x h := hst.resolve_left (by rw [hm0, hpj]; simp)
        have : ap o.2 y ∈ rowU o x 0 := v.pR.orb_trans hx (v.pR.orb_symm (v.pU.its hx h) hxh) hyu
        exact mem_rows.2 ⟨0, by omega, this⟩
      · exact mem_rows.2 ⟨j + 1, by omega, hyu⟩
  · rw [e2] at hb
    rcases List.mem_append.1 hb with hb | hb
    · exact c.bd b hb
    · rw [List.mem_singleton] at hb
      exact ⟨x, h, hbd, hb⟩
/-! ### The heads of rows -/
def heads (o : Ori) : List Nat := (List.range o.1.length).filter (low o.1)
theorem cyR_heads {o : Ori} (v : Valid o) : cyR o = (heads o).map fun i : Nat => orb o.1 i := (v.pR.cycsP (Nat.le_refl _)).2
theorem cyR_head {o : Ori} (v : Valid o) {k : Nat} (hk : k < (cyR o).length) : nth (nth (cyR o) k) 0 = ((nth (heads o) k : Nat) : Int) ∧ k < (heads o).length ∧ low o.1 (nth (heads o) k) = true ∧ nth (heads o) k < o.1.length := by
  have hl : k < (heads o).length := by rw [cyR_heads v, List.length_map] at hk; exact hk
  have hm := List.mem_filter.1 (nth_mem (xs := heads o) hl)
  have hlt := List.mem_range.1 hm.1
  have e : nth (cyR o) k = orb o.1 ((nth (heads o) k : Nat) : Int) := by
    have : nth ((heads o).map fun i : Nat => orb o.1 (i : Int)) k = orb o.1 ((nth (heads o) k : Nat) : Int) := nth_map hl
    rw [← this, ← cyR_heads v]
  rw [e]
  exact ⟨nth_orb (v.pR.pers (Sq.nat hlt)).2.1, hl, hm.2, hlt⟩
theorem heads_lt {o : Ori} {i k : Nat} (hk : k < (heads o).length) (hik : i < k) : nth (heads o) i < nth (heads o) k := by
  have h : (heads o).Pairwise (· < ·) := List.pairwise_lt_range.filter _
  rw [List.pairwise_iff_getElem] at h
  have e : ∀ {j : Nat} (hj : j < (heads o).length), nth (heads o) j = (heads o)[j] := fun hj => nth_of_get? (List.getElem?_eq_getElem hj)
  rw [e hk, e (by omega)]
  exact h i k (by omega) hk hik
theorem cyR_low {o : Ori} (v : Valid o) {k : Nat} (hk : k < (cyR o).length) : ∀ y ∈ orb o.1 (nth (nth (cyR o) k) 0), nth (nth (cyR o) k) 0 ≤ y := fun y hy => by
  obtain ⟨e, _, hl, _⟩ := cyR_head v hk
  rw [e] at hy ⊢
  unfold low at hl
  exact of_decide_eq_true (List.all_eq_true.1 hl y hy)
theorem ph1_I {o : Ori} {m : Bool} (v : Valid o) : ∀ {k : Nat}, k ≤ (cyR o).length → CyI o m (ph1 o m k)
  | 0, _ => CyI.nil v
  | k + 1, hk => by
    have ih := ph1_I v (m := m) (k := k) (by omega)
    obtain ⟨hx, hr⟩ := cyR_row v (k := k) (by omega)
    by_cases hb : (m || posR o (nth (cyR o) k)) = true
    · rw [ph1_in hb]
      have hb' : (m || posR o (rowU o (nth (nth (cyR o) k) 0) 0)) = true := by rw [hr] at hb; exact hb
      exact ih.row hx (ph1_new v (by omega) hb) (fun h0 => .inl (by rw [h0, Bool.false_or] at hb'; exact hb')) (cyR_low v (by omega)) (.inl hb')
    · rw [ph1_out (Bool.eq_false_iff.2 hb)]; exact ih
/-- What is left behind the first pass. -/
theorem CyI.left {o : Ori} {m : Bool} {st : CySt} (c : CyI o m st) (hm0 : m = false) (hp : ∀ y, Sq o.1.length y → posR o (orb o.1 y) = true → y ∈ st.1) {x : Int} (hx : Sq o.1.length x) (hm : x ∉ st.1) : ∀ j, it o.2 j x ∉ st.1 ∧ posR o (rowU o x j) = false := by
  have v := c.ok.gs.v
  have np : ∀ y, Sq o.1.length y → y ∉ st.1 → posR o (orb o.1 y) = false := fun y hy h => Bool.eq_false_iff.2 fun e => h (hp y hy e)
  have hdn : ∀ y, Sq o.1.length y → y ∉ st.1 → ap (invL o.2) y ∉ st.1 := fun y hy h hd => by
    have := c.up hm0 _ hd (by rw [v.pU.ap_inv hy]; exact np y hy h)
    rw [v.pU.ap_inv hy] at this
    exact h this
  have key : ∀ j, it o.2 j x ∉ st.1 := by
    intro j
    induction j with
    | zero => exact hm
    | succ j ih =>
      have hxj := v.pU.its hx j
      refine v.pU.inv.back (G := fun y => y ∉ st.1) hdn (v.pU.aps hxj) ?_
      show ap (invL o.2) (ap o.2 (it o.2 j x)) ∉ st.1
      rw [v.pU.inv_ap hxj]; exact ih
  exact fun j => ⟨key j, np _ (v.pU.its hx j) (key j)⟩
theorem ph2_pos {o : Ori} {m : Bool} (v : Valid o) {k : Nat} : ∀ y, Sq o.1.length y → (m || posR o (orb o.1 y)) = true → y ∈ (ph2 o m k).1 := by
  induction k with
  | zero =>
    intro y hy hp
    obtain ⟨c, hc, hyc⟩ := cyR_has v hy
    obtain ⟨hx, hr⟩ := cyR_row v hc
    have hb : (m || posR o (nth (cyR o) c)) = true := by
      rw [hr] at hyc ⊢
      rw [← posR_same v hx hyc]; exact hp
    have hmono : ∀ j, c < j → j ≤ (cyR o).length → nth (nth (cyR o) c) 0 ∈ (ph1 o m j).1 := by
      intro j
      induction j with
      | zero => intro h; omega
      | succ j ih =>
        intro h1 h2
        by_cases e : j = c
        · subst e
          rw [ph1_in hb]
          exact grw_head (ph1_ok v (by omega)).1 hx (ph1_new v hc hb)
        · have := ih (by omega) (by omega)
          by_cases hb2 : (m || posR o (nth (cyR o) j)) = true
          · rw [ph1_in hb2]; exact List.mem_append.2 (.inl this)
          · rw [ph1_out (Bool.eq_false_iff.2 hb2)]; exact this
    have h1 := hmono _ hc (Nat.le_refl _)
    rw [hr] at hyc
    exact ((ph1_ok v (m := m) (Nat.le_refl _)).1.gs.c.orb v hx hyc).2 h1
  | succ k ih =>
    intro y hy hp
    have := ih y hy hp
    by_cases hm : nth (nth (cyR o) k) 0 ∈ (ph2 o m k).1
    · rw [ph2_out hm]; exact this
    · rw [ph2_in hm]; exact List.mem_append.2 (.inl this)
theorem ph2_I {o : Ori} {m : Bool} (v : Valid o) : ∀ {k : Nat}, k ≤ (cyR o).length → CyI o m (ph2 o m k)
  | 0, _ => ph1_I v (Nat.le_refl _)
  | k + 1, hk => by
    have ih := ph2_I v (m := m) (k := k) (by omega)
    obtain ⟨hx, hr⟩ := cyR_row v (k := k) (by omega)
    by_cases hm : nth (nth (cyR o) k) 0 ∈ (ph2 o m k).1
    · rw [ph2_out hm]; exact ih
    · rw [ph2_in hm]
      have hm0 : m = false := by
        cases m with
        | false => rfl
        | true => exact absurd (ph2_pos v _ hx (by rw [Bool.true_or])) hm
      have hl := ih.left hm0 (fun y hy hp => ph2_pos v y hy (by rw [hp, Bool.or_true])) hx hm
      have hst := ih.st hx hm
      have hxh : nth (nth (cyR o) k) 0 ∈ rowU o (nth (nth (cyR o) k) 0) (hgt o m (ph2 o m k).1 (nth (nth (cyR o) k) 0)) := hst.resolve_left (by rw [hm0, (hl _).2]; simp)
      refine ih.row hx hm (fun _ => .inr hxh) (cyR_low v (by omega)) (.inr ⟨hm0, fun j => (hl j).2, hxh, fun y hy => ?_⟩)
      have hgs := (ih.ok.gs.rows hx hm (ih.ok.gs.stops hx hm (m := m)).2.1)
      have hys := hgs.g.rng y (List.mem_append.2 (.inr hy))
      obtain ⟨c, hc, hyc⟩ := cyR_has v hys
      obtain ⟨hxc, hrc⟩ := cyR_row v hc
      have hle : nth (nth (cyR o) c) 0 ≤ y := cyR_low v hc y (by rw [← hrc]; exact hyc)
      refine Int.le_trans (Classical.byContradiction fun hlt => ?_) hle
      obtain ⟨e1, l1, _, _⟩ := cyR_head v hc
      obtain ⟨e2, l2, _, _⟩ := cyR_head v (k := k) (by omega)
      have hck : c < k := Classical.byContradiction fun hh => by
        rcases Nat.lt_or_ge k c with h | h
        · have := heads_lt l1 h; omega
        · obtain rfl : c = k := by omega
          omega
      have h1 := (ph2_ok v (m := m) (k := k) (by omega)).2 c hck
      rw [hrc] at hyc
      have h2 := (ih.ok.gs.c.orb v hxc hyc).2 h1
      exact (List.nodup_append.1 hgs.g.nodup).2.2 _ h2 _ hy rfl
/-- Every band of the program is one of the reference's form. -/
theorem phE_bd {o : Ori} {m : Bool} (v : Valid o) : ∀ b ∈ (phE o m).2, ∃ x h, BdR o m x h ∧ b = bandR o m x ∧ b.2.2 = rowsT o x h := fun b hb => by
  obtain ⟨x, h, h1, rfl⟩ := (ph2_I v (m := m) (Nat.le_refl _)).bd b hb
  exact ⟨x, h, h1, by unfold bandR; rw [h1.band], rfl⟩
end Go.Fl

/- Cylinders: the list of the reference is that of the program. Plain Lean, no program in sight. -/
namespace Go.Fl
def lwO (c : List Int) : Int := minTo c (nth c 0) c.length
def dnF (o : Ori) (m : Bool) (y : Int) : Nat → Nat → Nat
  | 0, r => r
  | f + 1, r => if (m || posR o (orb o.1 (it (invL o.2) r y))) = true then r else if it (invL o.2) (r + 1) y ∈ orb o.1 y then r + 1 else dnF o m y f (r + 1)
def atR (o : Ori) (m : Bool) (y : Int) : Int := it (invL o.2) (dnF o m y o.1.length 0) y
def hdR (o : Ori) (m : Bool) (y : Int) : Int := lwO (orb o.1 (atR o m y))
def sR (o : Ori) (m : Bool) (y : Int) : BandT := bandR o m (hdR o m y)
def refB (o : Ori) (m : Bool) (x : Nat) : Bool := decide (keyB (sR o m x) = (x : Int))
def refL (o : Ori) (m : Bool) (k : Nat) : List BandT := ((List.range k).filter (refB o m)).map fun x : Nat => sR o m x
/-! ### Least elements -/
theorem minTo_mem {c : List Int} {x : Int} : ∀ {i : Nat}, minTo c x i = x ∨ ∃ j, j < i ∧ minTo c x i = nth c j
  | 0 => .inl rfl
  | i + 1 => by
    rw [minTo]
    split
    · exact .inr ⟨i, by omega, rfl⟩
    · exact (minTo_mem (c := c) (x := x) (i := i)).imp id fun ⟨j, h1, h2⟩ => ⟨j, by omega, h2⟩
theorem lwO_mem {c : List Int} (h : 0 < c.length) : lwO c ∈ c := by
  unfold lwO
  rcases minTo_mem (c := c) (x := nth c 0) (i := c.length) with e | ⟨j, h1, h2⟩
  · rw [e]; exact nth_mem h
  · rw [h2]; exact nth_mem h1
theorem lwO_le {c : List Int} {y : Int} (h : y ∈ c) : lwO c ≤ y := by
  obtain ⟨j, hj, rfl⟩ := mem_nth h
  exact (minTo_all (c := c) (x := nth c 0) (i := c.length)).1 j hj
theorem lwO_low {o : Ori} (v : Valid o) {x z : Int} (hx : Sq o.1.length x) (lo : ∀ y ∈ orb o.1 x, x ≤ y) (hz : z ∈ orb o.1 x) : lwO (orb o.1 z) = x := by
  have hzs := v.pR.orb_rng hx hz
  have h1 := lwO_mem (c := orb o.1 z) (by rw [orb_len]; exact (v.pR.pers hzs).2.1)
  have h2 := lo _ (v.pR.orb_trans hx hz h1)
  have h3 := lwO_le (v.pR.orb_symm hx hz)
  omega
theorem mnK_le {l : List Int} : ∀ {k j : Nat}, j < k → mnK l k ≤ nth l j
  | 0, _, h => absurd h (by omega)
  | 1, j, h => by
    have e : j = 0 := by omega
    subst e; exact Int.le_refl _
  | k + 2, j, h => by
    have ih := fun (h : j < k + 1) => mnK_le (l := l) (k := k + 1) h
    rw [mnK]
    by_cases e : j = k + 1
    · subst e; split <;> omega
    · have := ih (by omega); split <;> omega
theorem lsK_le {L : List (List Int)} : ∀ {k j : Nat}, j < k → ∀ y ∈ nth L j, lsK L k ≤ y
  | 0, _, h, _, _ => absurd h (by omega)
  | k + 1, j, h, y, hy => by
    rw [lsK]
    by_cases e : j = k
    · subst e
      obtain ⟨i, hi, rfl⟩ := mem_nth hy
      have := mnK_le (l := nth L j) hi
      split <;> omega
    · have := lsK_le (L := L) (k := k) (j := j) (by omega) y hy
      split <;> omega
theorem key_le {b : BandT} {y : Int} (h : y ∈ b.2.2.flatten) : keyB b ≤ y := by
  obtain ⟨l, h1, h2⟩ := List.mem_flatten.1 h
  obtain ⟨i, hi, rfl⟩ := mem_nth' h1
  exact lsK_le hi y h2
/-! ### Down to the lowest row -/
theorem dnF_pos {o : Ori} {m : Bool} {y : Int} {q : Nat} (hs : (m || posR o (orb o.1 (it (invL o.2) q y))) = true) : ∀ {f a : Nat}, a ≤ q → q ≤ a + f → (∀ r, a ≤ r → r < q → (m || posR o (orb o.1 (it (invL o.2) r y))) = false ∧ it (invL o.2) (r + 1) y ∉ orb o.1 y) → dnF o m y f a = q
  | 0, a, h1, h2, _ => by unfold dnF; omega
  | f + 1, a, h1, h2, h => by
    unfold dnF
    by_cases e : a = q
    · subst e; rw [if_pos hs]
    · obtain ⟨k1, k2⟩ := h a (Nat.le_refl _) (by omega)
      rw [if_neg (by rw [k1]; simp), if_neg k2]
      exact dnF_pos hs (by omega) (by omega) fun r hr hlt => h r (by omega) hlt
theorem dnF_ring {o : Ori} {m : Bool} {y : Int} {q : Nat} (hs : it (invL o.2) q y ∈ orb o.1 y) : ∀ {f a : Nat}, a < q → q ≤ a + f → (∀ r, a ≤ r → r < q → (m || posR o (orb o.1 (it (invL o.2) r y))) = false) → (∀ r, a < r → r < q → it (invL o.2) r y ∉ orb o.1 y) → dnF o m y f a = q
  | 0, a, h1, h2, _, _ => by omega
  | f + 1, a, h1, h2, h, k => by
    unfold dnF
    rw [if_neg (by rw [h a (Nat.le_refl _) h1]; simp)]
    by_cases e : a + 1 = q
    · subst e; rw [if_pos hs]
    · rw [if_neg (k (a + 1) (by omega) (by omega))]
      exact dnF_ring hs (by omega) (by omega) (fun r hr hlt => h r (by omega) hlt) fun r hr hlt => k r (by omega) hlt
theorem BdR.down {o : Ori} {m : Bool} {x : Int} {h : Nat} (b : BdR o m x h) {i : Nat} (hp : ∀ j, 1 ≤ j → j ≤ i → posR o (rowU o x j) = false) {y : Int} (hy : y ∈ rowU o x i) : ∀ r, r ≤ i → it (invL o.2) r y ∈ rowU o x (i - r)
  | 0, _ => hy
  | r + 1, hr => by
    have ih := b.down hp hy r (by omega)
    have e : i - r = i - (r + 1) + 1 := by omega
    rw [e] at ih
    exact row_down b.v b.hx (hp _ (by omega) (by omega)) ih
theorem hRF_gt {o : Ori} {m : Bool} {q : Nat} {z : Int} : ∀ {f a : Nat}, q < a + f → (∀ j, a ≤ j → j ≤ q → stopR o m z j = false) → q < hRF o m z f a
  | 0, a, h1, _ => by unfold hRF; omega
  | f + 1, a, h1, hs => by
    unfold hRF
    by_cases e : q < a
    · split
      · exact e
      · exact hRF_gt (by omega) fun j h2 h3 => by omega
    · rw [if_neg (by rw [hs a (Nat.le_refl _) (by omega)]; simp)]
      exact hRF_gt (by omega) fun j h2 h3 => hs j (by omega) h3
section
variable {o : Ori} {m : Bool} {x : Int} {h : Nat} (b : BdR o m x h)
include b
/-- Above a line with vertices. -/
theorem BdR.sPos (hk : (m || posR o (rowU o x 0)) = true) {i : Nat} (hi : i < h) {y : Int} (hy : y ∈ rowU o x i) : sR o m y = bandR o m x := by
  have v := b.v
  have hp : ∀ j, 1 ≤ j → j ≤ i → (m || posR o (rowU o x j)) = false := fun j h1 h2 => b.go j h1 (by omega)
  have hd := b.down (i := i) (fun j h1 h2 => (Bool.or_eq_false_iff.1 (hp j h1 h2)).2) hy
  have hpos : ∀ r, r ≤ i → posR o (orb o.1 (it (invL o.2) r y)) = posR o (rowU o x (i - r)) := fun r hr => posR_same v (v.pU.its b.hx _) (hd r hr)
  have hle := b.le
  have e : dnF o m y o.1.length 0 = i := by
    refine dnF_pos ?_ (Nat.zero_le _) (by omega) fun r _ hr => ⟨?_, fun hm => ?_⟩
    · rw [hpos i (Nat.le_refl _), Nat.sub_self]; exact hk
    · rw [hpos r (by omega)]; exact hp _ (by omega) (by omega)
    · have := b.sep (by omega) hi (hd (r + 1) (by omega)) (v.pR.orb_trans (v.pU.its b.hx i) hy hm)
      omega
  unfold sR hdR atR
  rw [e]
  have h0 := hd i (Nat.le_refl _)
  rw [Nat.sub_self] at h0
  rw [lwO_low v b.hx b.lo h0]
/-- Around. -/
theorem BdR.ring (hp : ∀ j, posR o (rowU o x j) = false) (hx : x ∈ rowU o x h) (y : Int) : ∀ j, y ∈ rowU o x (j + h) ↔ y ∈ rowU o x j := by
  intro j
  have v := b.v
  induction j generalizing y with
  | zero =>
    have hxh := v.pU.its b.hx h
    rw [Nat.zero_add]
    exact ⟨fun hy => v.pR.orb_trans b.hx (v.pR.orb_symm hxh hx) hy, fun hy => v.pR.orb_trans hxh hx hy⟩
  | succ j ih =>
    have e : ∀ k, y ∈ rowU o x (k + 1) ↔ ∃ z ∈ rowU o x k, y = ap o.2 z := fun k => by
      rw [← rowU_next v b.hx (by rw [rowU_pos v b.hx]; exact hp _)]
      exact mem_abvL v
    rw [show j + 1 + h = j + h + 1 by omega, e, e]
    exact ⟨fun ⟨z, h1, h2⟩ => ⟨z, (ih z).1 h1, h2⟩, fun ⟨z, h1, h2⟩ => ⟨z, (ih z).2 h1, h2⟩⟩
theorem BdR.sRing (hm : m = false) (hp : ∀ j, posR o (rowU o x j) = false) (hx : x ∈ rowU o x h) {i : Nat} (hi : i < h) {y : Int} (hy : y ∈ rowU o x i) : atR o m y ∈ orb o.1 y := by
  have v := b.v
  have hd := b.down (i := i + h) (fun j _ _ => hp j) ((b.ring hp hx y i).2 hy)
  have hle := b.le
  have hys := rowU_sq v b.hx y hy
  have hin : ∀ z, z ∈ orb o.1 y ↔ z ∈ rowU o x i := fun z => ⟨fun hz => v.pR.orb_trans (v.pU.its b.hx i) hy hz, fun hz => v.pR.orb_trans hys (v.pR.orb_symm (v.pU.its b.hx i) hy) hz⟩
  have hat : it (invL o.2) h y ∈ orb o.1 y := by
    have := hd h (by omega)
    rw [Nat.add_sub_cancel] at this
    exact (hin _).2 this
  have e : dnF o m y o.1.length 0 = h := by
    refine dnF_ring hat (by have := b.h1; omega) (by omega) (fun r _ hr => ?_) fun r h0 hr hm2 => ?_
    · rw [posR_same v (v.pU.its b.hx _) (hd r (by omega)), hm, Bool.false_or]; exact hp _
    · have h1 := hd r (by omega)
      have h2 := (hin _).1 hm2
      by_cases hc : r ≤ i
      · rw [show i + h - r = i - r + h by omega, b.ring hp hx] at h1
        have := b.sep (by omega) hi h1 h2
        omega
      · have := b.sep (by omega) hi h1 h2
        omega
  unfold atR
  rw [e]; exact hat
theorem BdR.sRing0 (hm : m = false) (hp : ∀ j, posR o (rowU o x j) = false) (hx : x ∈ rowU o x h) {y : Int} (hy : y ∈ rowU o x 0) : sR o m y = bandR o m x := by
  have h1 := b.sRing hm hp hx (by have := b.h1; omega) hy
  unfold sR hdR
  rw [lwO_low b.v b.hx b.lo (b.v.pR.orb_trans b.hx hy h1)]
theorem BdR.sRing1 (hm : m = false) (hp : ∀ j, posR o (rowU o x j) = false) (hx : x ∈ rowU o x h) {i : Nat} (h0 : 0 < i) (hi : i < h) {y : Int} (hy : y ∈ rowU o x i) : keyB (sR o m y) ≤ x := by
  have v := b.v
  have hys := rowU_sq v b.hx y hy
  have hxi := v.pU.its b.hx i
  have h1 := b.sRing hm hp hx hi hy
  have has := v.pR.orb_rng hys h1
  have hz : hdR o m y ∈ rowU o x i := by
    unfold hdR
    have h2 := lwO_mem (c := orb o.1 (atR o m y)) (by rw [orb_len]; exact (v.pR.pers has).2.1)
    exact v.pR.orb_trans hxi hy (v.pR.orb_trans hys h1 h2)
  have hzs := rowU_sq v b.hx _ hz
  have hup : ∀ j, it o.2 j (hdR o m y) ∈ rowU o x (i + j) := by
    intro j
    induction j with
    | zero => exact hz
    | succ j ih => exact row_up v b.hx (hp _) ih
  have hsame : ∀ j w, w ∈ rowU o (hdR o m y) j ↔ w ∈ rowU o x (i + j) := fun j w => by
    have hq := v.pU.its b.hx (i + j)
    have hq2 := v.pU.its hzs j
    exact ⟨fun hw => v.pR.orb_trans hq (hup j) hw, fun hw => v.pR.orb_trans hq2 (v.pR.orb_symm hq (hup j)) hw⟩
  have hle := b.le
  have hgt : h - i < hgR o m (hdR o m y) := by
    refine hRF_gt (by omega) fun j j1 j2 => ?_
    unfold stopR
    have hpj : posR o (rowU o (hdR o m y) j) = false := (posR_same v (v.pU.its b.hx (i + j)) (hup j)).trans (hp _)
    rw [hpj, Bool.or_false, decide_eq_false ?_]
    · rw [hm]; rfl
    rw [hsame]
    intro hw
    by_cases e : i + j = h
    · rw [e, ← Nat.zero_add h, b.ring hp hx] at hw
      have := b.sep hi (by omega) hz hw
      omega
    · have := b.sep hi (by omega) hz hw
      omega
  refine key_le (mem_rows.2 ⟨h - i, hgt, ?_⟩)
  rw [hsame, show i + (h - i) = h by omega]; exact hx
end
/-! ### Both lists -/
theorem mem_flatB {l : List BandT} {x : Int} : x ∈ flatB l ↔ ∃ b ∈ l, x ∈ b.2.2.flatten := by
  unfold flatB
  rw [List.mem_flatten]
  constructor
  · rintro ⟨c, h1, h2⟩
    obtain ⟨b, hb, rfl⟩ := List.mem_map.1 h1
    exact ⟨b, hb, h2⟩
  · rintro ⟨b, hb, h2⟩
    exact ⟨_, List.mem_map.2 ⟨b, hb, rfl⟩, h2⟩
theorem sR_key {o : Ori} {m : Bool} (v : Valid o) {b : BandT} (hb : b ∈ (phE o m).2) : sR o m (keyB b) = b := by
  have hok := (ph2_ok v (m := m) (Nat.le_refl _)).1
  have hmem := key_mem v (hok.ok b hb)
  obtain ⟨x, h, bd, e, er⟩ := phE_bd v b hb
  rw [er] at hmem
  obtain ⟨i, hi, hk⟩ := mem_rows.1 hmem
  rcases bd.kd with hk0 | ⟨hm, hp, hx, hlo⟩
  · rw [bd.sPos hk0 hi hk, e]
  · have h1 := hlo _ hmem
    have h2 : keyB b ≤ x := key_le (by rw [er]; exact mem_rows.2 ⟨0, by have := bd.h1; omega, v.pR.orb_self bd.hx⟩)
    have h3 : keyB b = x := by omega
    have h4 := bd.sRing0 hm hp hx (y := x) (v.pR.orb_self bd.hx)
    rw [h3, h4, e]
theorem sR_in {o : Ori} {m : Bool} (v : Valid o) {y : Int} (hy : Sq o.1.length y) (hk : keyB (sR o m y) = y) : sR o m y ∈ (phE o m).2 := by
  have hok := (ph2_ok v (m := m) (Nat.le_refl _)).1
  have hall : y ∈ (phE o m).1 := phE_all v hy
  have hfl : (phE o m).1 = flatB (phE o m).2 := hok.flat
  rw [hfl] at hall
  obtain ⟨b, hb, hyb⟩ := mem_flatB.1 hall
  obtain ⟨x, h, bd, e, er⟩ := phE_bd v b hb
  rw [er] at hyb
  obtain ⟨i, hi, hyi⟩ := mem_rows.1 hyb
  rcases bd.kd with hk0 | ⟨hm, hp, hx, hlo⟩
  · rw [bd.sPos hk0 hi hyi, ← e]; exact hb
  · rcases Nat.eq_zero_or_pos i with rfl | h0
    · rw [bd.sRing0 hm hp hx hyi, ← e]; exact hb
    · have h1 := bd.sRing1 hm hp hx h0 hi hyi
      have h2 := hlo y hyb
      have h3 : y = x := by omega
      have := bd.sep hi (by have := bd.h1; omega) hyi (j := 0) (by rw [h3]; exact v.pR.orb_self bd.hx)
      omega
theorem mem_refL {o : Ori} {m : Bool} {k : Nat} {b : BandT} : b ∈ refL o m k ↔ ∃ x : Nat, x < k ∧ keyB (sR o m x) = (x : Int) ∧ b = sR o m x := by
  unfold refL
  rw [List.mem_map]
  constructor
  · rintro ⟨x, hx, rfl⟩
    obtain ⟨h1, h2⟩ := List.mem_filter.1 hx
    exact ⟨x, List.mem_range.1 h1, of_decide_eq_true h2, rfl⟩
  · rintro ⟨x, h1, h2, rfl⟩
    exact ⟨x, List.mem_filter.2 ⟨List.mem_range.2 h1, decide_eq_true h2⟩, rfl⟩
theorem refL_lt {o : Ori} {m : Bool} {k : Nat} : (refL o m k).Pairwise fun a b => keyB a < keyB b := by
  unfold refL
  rw [List.pairwise_map]
  have h : ((List.range k).filter (refB o m)).Pairwise (· < ·) := List.pairwise_lt_range.filter _
  refine h.imp_of_mem fun {x y} hx hy hlt => ?_
  have h1 := of_decide_eq_true (List.mem_filter.1 hx).2
  have h2 := of_decide_eq_true (List.mem_filter.1 hy).2
  rw [h1, h2]; omega
theorem phE_nodup {o : Ori} {m : Bool} (v : Valid o) : (phE o m).2.Nodup := by
  have hok := (ph2_ok v (m := m) (Nat.le_refl _)).1
  have hn : (flatB (phE o m).2).Nodup := by have := hok.gs.g.nodup; rw [hok.flat] at this; exact this
  unfold flatB at hn
  have h2 := (List.pairwise_flatten.1 hn).2
  rw [List.pairwise_map] at h2
  refine h2.imp_of_mem fun {a c} ha hc hd e => ?_
  subst e
  have hk := key_mem v (hok.ok a ha)
  exact hd _ hk _ hk rfl
theorem refL_cyl {o : Ori} {m : Bool} (v : Valid o) : refL o m o.1.length = cylL o m := by
  have hok := (ph2_ok v (m := m) (Nat.le_refl _)).1
  have hp : (refL o m o.1.length).Perm (phE o m).2 := by
    refine (List.perm_ext_iff_of_nodup (refL_lt.imp fun h e => by rw [e] at h; omega) (phE_nodup v)).2 fun b => ?_
    rw [mem_refL]
    constructor
    · rintro ⟨x, h1, h2, rfl⟩
      exact sR_in v (Sq.nat h1) h2
    · intro hb
      have h1 := sR_key v hb
      have hks : Sq o.1.length (keyB b) := by
        have h2 := key_mem v (hok.ok b hb)
        have h3 : keyB b ∈ (phE o m).1 := by
          have e : (phE o m).1 = flatB (phE o m).2 := hok.flat
          rw [e]; exact mem_flatB.2 ⟨b, hb, h2⟩
        exact hok.gs.g.rng _ h3
      have h0 := hks.1
      have hn := hks.2
      have e : (((keyB b).toNat : Nat) : Int) = keyB b := Int.toNat_of_nonneg h0
      exact ⟨(keyB b).toNat, by omega, by rw [e, h1], by rw [e, h1]⟩
  exact hok.sorted hp cylL_perm (refL_lt.imp fun h => by omega) srtB_pw
theorem refL_yes {o : Ori} {m : Bool} {k : Nat} (h : keyB (sR o m k) = (k : Int)) : refL o m (k + 1) = refL o m k ++ [sR o m k] := by
  unfold refL refB; rw [List.range_succ, List.filter_append, List.map_append]; simp [h]
theorem refL_no {o : Ori} {m : Bool} {k : Nat} (h : keyB (sR o m k) ≠ (k : Int)) : refL o m (k + 1) = refL o m k := by
  unfold refL refB; rw [List.range_succ, List.filter_append, List.map_append]; simp [h]
theorem refL_len {o : Ori} {m : Bool} {k : Nat} : (refL o m k).length ≤ k := by
  unfold refL; rw [List.length_map]
  have := List.length_filter_le (refB o m) (List.range k)
  rw [List.length_range] at this; exact this
end Go.Fl

/- Cylinders: what the walks of the reference and of the law lean on. Plain Lean, no program in sight. -/
namespace Go.Fl
theorem posR_at {o : Ori} {l : List Int} {k : Nat} (hk : k < l.length) (h : 0 < ordF o (nth l k)) : posR o l = true := List.any_eq_true.2 ⟨_, nth_mem hk, decide_eq_true h⟩
theorem posR_none {o : Ori} {l : List Int} (h : ∀ i, i < l.length → ¬ 0 < ordF o (nth l i)) : posR o l = false := posR_of fun x hx => by
  obtain ⟨i, hi, rfl⟩ := mem_nth hx
  exact h i hi
theorem minTo_mnK {l : List Int} {x : Int} : ∀ {k : Nat}, 0 < k → minTo l x k = if mnK l k < x then mnK l k else x
  | 0, h => absurd h (by omega)
  | 1, _ => rfl
  | k + 2, _ => by
    rw [minTo, minTo_mnK (k := k + 1) (by omega), mnK]
    by_cases h1 : nth l (k + 1) < mnK l (k + 1)
    · rw [if_pos h1]
      by_cases h2 : mnK l (k + 1) < x
      · rw [if_pos h2, if_pos h1, if_pos (by omega)]
      · rw [if_neg h2]
    · rw [if_neg h1]
      by_cases h2 : mnK l (k + 1) < x
      · rw [if_pos h2, if_neg h1]
      · rw [if_neg h2, if_neg (by omega)]
theorem lsK_succ {L : List (List Int)} {i : Nat} (h : 0 < (nth L i).length) : minTo (nth L i) (lsK L i) (nth L i).length = lsK L (i + 1) := by rw [minTo_mnK h]; rfl
/-- A band ends. -/
theorem hgR_spec {o : Ori} {m : Bool} (v : Valid o) {x : Int} (hx : Sq o.1.length x) : 1 ≤ hgR o m x ∧ hgR o m x ≤ o.1.length ∧ (∀ j, 1 ≤ j → j < hgR o m x → stopR o m x j = false) ∧ stopR o m x (hgR o m x) = true := by
  obtain ⟨h1, h2, h3, _⟩ := v.pU.pers hx
  have hs : stopR o m x (per o.2 x) = true := by
    unfold stopR rowU
    rw [h1, decide_eq_true (v.pR.orb_self hx), Bool.or_true]
  have key : ∀ k, ∀ i, 1 ≤ i → i + k = per o.2 x → (∀ j, 1 ≤ j → j < i → stopR o m x j = false) → ∃ q, 1 ≤ q ∧ q ≤ per o.2 x ∧ (∀ j, 1 ≤ j → j < q → stopR o m x j = false) ∧ stopR o m x q = true := by
    intro k
    induction k with
    | zero => intro i q1 q2 q3; exact ⟨i, q1, by omega, q3, by rw [show i = per o.2 x by omega]; exact hs⟩
    | succ k ih =>
      intro i q1 q2 q3
      cases hb : stopR o m x i with
      | true => exact ⟨i, q1, by omega, q3, hb⟩
      | false =>
        refine ih (i + 1) (by omega) (by omega) fun j r1 r2 => ?_
        by_cases e : j = i
        · subst e; exact hb
        · exact q3 j r1 (by omega)
  obtain ⟨q, q1, q2, q3, q4⟩ := key (per o.2 x - 1) 1 (Nat.le_refl _) (by omega) fun j r1 r2 => by omega
  have e : hgR o m x = q := hRF_at q4 q1 (by omega) q3
  rw [e]; exact ⟨q1, by omega, q3, q4⟩
theorem hgR_stop {o : Ori} {m : Bool} (v : Valid o) {x : Int} (hx : Sq o.1.length x) {i : Nat} (hi : i ≤ hgR o m x) (h0 : 0 < i) (hs : stopR o m x i = true) : i = hgR o m x := by
  obtain ⟨_, _, h3, _⟩ := hgR_spec (m := m) v hx
  refine Classical.byContradiction fun e => ?_
  rw [h3 i h0 (by omega)] at hs; cases hs
theorem hgR_go {o : Ori} {m : Bool} (v : Valid o) {x : Int} (hx : Sq o.1.length x) {i : Nat} (hi : i ≤ hgR o m x) (hs : 0 < i → stopR o m x i = false) : i + 1 ≤ hgR o m x := by
  obtain ⟨h1, _, _, h4⟩ := hgR_spec (m := m) v hx
  rcases Nat.eq_zero_or_pos i with rfl | h0
  · exact h1
  · refine Classical.byContradiction fun e => ?_
    obtain rfl : i = hgR o m x := by omega
    rw [hs h0] at h4; cases h4
theorem atL_in_iff {l : List Int} {x : Int} : decide (atL l x ≥ 0) = decide (x ∈ l) := by
  rw [decide_eq_decide]
  have := atL_neg (l := l) (x := x)
  constructor
  · intro h; exact Classical.byContradiction fun hm => by have := this.2 hm; omega
  · intro h; exact Int.not_lt.1 fun hm => this.1 hm h
theorem rstop {o : Ori} {m : Bool} {x : Int} {i : Nat} : ((m || !!posR o (rowU o x i)) || decide (atL (rowU o x i) x ≥ 0)) = stopR o m x i := by
  unfold stopR; rw [Bool.not_not, atL_in_iff]
theorem lwO_sq {o : Ori} (v : Valid o) {z : Int} (hz : Sq o.1.length z) : lwO (orb o.1 z) ∈ orb o.1 z ∧ Sq o.1.length (lwO (orb o.1 z)) := by
  have h := lwO_mem (c := orb o.1 z) (by rw [orb_len]; exact (v.pR.pers hz).2.1)
  exact ⟨h, v.pR.orb_rng hz h⟩
theorem per_lwO {o : Ori} (v : Valid o) {z : Int} (hz : Sq o.1.length z) : per o.1 (lwO (orb o.1 z)) = (orb o.1 z).length := by
  rw [orb_len]; exact per_orb v.pR hz (lwO_sq v hz).1
theorem dn_stop {o : Ori} {m : Bool} {y : Int} {f r : Nat} (h : (m || posR o (orb o.1 (it (invL o.2) r y))) = true) : dnF o m y f r = r := by
  cases f with
  | zero => rfl
  | succ f => unfold dnF; rw [if_pos h]
theorem dn_ring {o : Ori} {m : Bool} {y : Int} {f r : Nat} (h : (m || posR o (orb o.1 (it (invL o.2) r y))) = false) (k : it (invL o.2) (r + 1) y ∈ orb o.1 y) : dnF o m y (f + 1) r = r + 1 := by
  unfold dnF; rw [if_neg (by rw [h]; simp), if_pos k]
theorem dn_go {o : Ori} {m : Bool} {y : Int} {f r : Nat} (h : (m || posR o (orb o.1 (it (invL o.2) r y))) = false) (k : it (invL o.2) (r + 1) y ∉ orb o.1 y) : dnF o m y (f + 1) r = dnF o m y f (r + 1) := by
  rw [dnF, if_neg (by rw [h]; simp), if_neg k]
theorem dn_exit {o : Ori} {m : Bool} {y : Int} {r : Nat} (hdn : dnF o m y (o.1.length - r) r = dnF o m y o.1.length 0) (hr : r ≤ o.1.length) (h : ¬ (r < o.1.length ∧ (m || posR o (orb o.1 (it (invL o.2) r y))) = false)) : it (invL o.2) r y = atR o m y := by
  unfold atR
  rw [← hdn]
  by_cases hlt : r < o.1.length
  · rw [dn_stop (Classical.byContradiction fun e => h ⟨hlt, Bool.eq_false_iff.2 e⟩)]
  · rw [show o.1.length - r = 0 by omega]; rfl
theorem atR_sq {o : Ori} {m : Bool} (v : Valid o) {y : Int} (hy : Sq o.1.length y) : Sq o.1.length (atR o m y) := v.pU.inv.its hy _
/-! ### The law -/
def allT (L : List BandT) (i k : Nat) : List Int := flatB (L.take i) ++ ((nth L i).2.2.take k).flatten
theorem allT_zero {L : List BandT} {i : Nat} : allT L i 0 = flatB (L.take i) := by unfold allT; rw [List.take_zero, List.flatten_nil, List.append_nil]
theorem allT_succ {L : List BandT} {i k : Nat} (hk : k < (nth L i).2.2.length) : allT L i (k + 1) = allT L i k ++ nth (nth L i).2.2 k := by
  unfold allT; rw [take_succ_nth hk, List.flatten_append, List.append_assoc]; simp
theorem allT_next {L : List BandT} {i : Nat} (hi : i < L.length) : allT L i (nth L i).2.2.length = allT L (i + 1) 0 := by
  rw [allT_zero]; unfold allT; rw [List.take_length, take_succ_nth hi, flatB_app, flatB_one]
theorem flatB_take {L : List BandT} {i : Nat} : (flatB (L.take i)).length ≤ (flatB L).length := by
  conv => rhs; rw [← List.take_append_drop i L, flatB_app, List.length_append]
  omega
theorem allT_len {L : List BandT} {i k : Nat} (hi : i < L.length) : (allT L i k).length ≤ (flatB L).length := by
  refine Nat.le_trans ?_ (flatB_take (i := i + 1))
  have h : allT L i (nth L i).2.2.length = flatB (L.take (i + 1)) := by rw [allT_next hi, allT_zero]
  rw [← h]
  unfold allT
  rw [List.length_append, List.length_append, List.take_length]
  have : ((nth L i).2.2.take k).flatten.length ≤ (nth L i).2.2.flatten.length := by
    conv => rhs; rw [← List.take_append_drop k (nth L i).2.2, List.flatten_append, List.length_append]
    omega
  omega
theorem cyl_all {o : Ori} {m : Bool} (v : Valid o) : (flatB (cylL o m)).length = o.1.length ∧ chkL (flatB (cylL o m)) o.1.length = 0 := by
  have hok := (ph2_ok v (m := m) (Nat.le_refl _)).1
  have e : (phE o m).1 = flatB (phE o m).2 := hok.flat
  have hp : (flatB (cylL o m)).Perm (phE o m).1 := by
    rw [e]
    exact (cylL_perm.map fun b : BandT => b.2.2.flatten).flatten
  have hg : Good o.1.length (phE o m).1 := hok.gs.g
  have hl : (phE o m).1.length = o.1.length := phE_len v
  refine ⟨by rw [hp.length_eq, hl], chkL_zero.2 ⟨fun i hi => hg.rng _ (hp.mem_iff.1 (nth_mem hi)), hp.nodup_iff.2 hg.nodup⟩⟩
theorem cyl_rows {o : Ori} {m : Bool} (v : Valid o) {i : Nat} (hi : i < (cylL o m).length) : (nth (cylL o m) i).2.2.length ≤ o.1.length := by
  have hb := (ph2_ok v (m := m) (Nat.le_refl _)).1.ok _ (cylL_perm.mem_iff.1 (nth_mem hi))
  obtain ⟨x, q, _, _, h2, e, _⟩ := hb.ex
  rw [e]; show (rowsT o x q).length ≤ _; rw [rowsT_len]; exact h2
theorem sR_rows {o : Ori} {m : Bool} (v : Valid o) {y : Int} (hy : Sq o.1.length y) : 0 < (sR o m y).2.2.length ∧ (sR o m y).2.2.length ≤ 60 ∧ ∀ l ∈ (sR o m y).2.2, 0 < l.length ∧ l.length ≤ 60 := by
  have hz := (lwO_sq v (atR_sq (m := m) v hy)).2
  obtain ⟨h1, h2, _, _⟩ := hgR_spec (m := m) v hz
  have hle := v.le
  show 0 < (rowsT o _ _).length ∧ (rowsT o _ _).length ≤ 60 ∧ ∀ l ∈ rowsT o _ _, _
  rw [rowsT_len]
  refine ⟨h1, by unfold hdR; omega, fun l hl => ?_⟩
  obtain ⟨i, hi, rfl⟩ := mem_nth' hl
  rw [rowsT_len] at hi
  rw [rowsT, nth_tab hi]
  exact ⟨rowU_lenpos v hz, Nat.le_trans (rowU_le v hz) hle⟩
end Go.Fl

/- Contracts: the cylinders of the reference; the law of cylinders. -/
namespace Go.Fl
open Go Go.Proofs

set_option maxRecDepth 100000 in
theorem ct_rSmooth (o : Ori) (l : List Int) (v : Valid o) (hl : ∀ x ∈ l, Sq o.1.length x) : Ct Tryz.prog 55 [kRd eO o, kRd (eL eI) l] (kB (!posR o l)) := by
  refine Ct.mk Tryz.func55 rfl Tryz.ntmps55 rfl (fun w J => ?_)
  refine Tr.fact (s := 1) rfl (fun _ _ h => lenB h) (fun hb => ?_)
  refine Tr.seq ?_
  refine Tr.rg ?_
  refine TrL.new (ok_box 2 rfl (fun _ => rfl) rfl) rfl rfl rfl rfl ?_
  refine TrL.op (ok_assign rfl (fun _ => rfl)) rfl rfl ?_
  refine TrL.fin ?_
  refine End.nxt ?_
  refine Tr.seq ?_
  refine Tr.seq ?_
  refine Tr.rg ?_
  refine TrL.op (ok_assign rfl (fun _ => rfl)) rfl rfl ?_
  refine TrL.fin ?_
  refine End.nxt ?_
  refine Tr.for1 (σ := Nat) [⟨1, true, _, _⟩, ⟨2, true, _, _⟩] [⟨2, _, _⟩] (fun k => [⟨5, true, [], kI (k : Int)⟩]) (fun k => []) (fun k => k ≤ l.length ∧ ∀ i, i < k → ¬ 0 < ordF o (nth l i)) (fun k => ∀ i, i < l.length → ¬ 0 < ordF o (nth l i)) (fun k => l.length - k) (0) ⟨Nat.zero_le _, fun i h => absurd h (by omega)⟩ (Ent.mk (.i rfl (by first | rfl | omega | (simp; done) | (simp; omega) | assumption) <| .k rfl rfl <| .k rfl rfl <| .nil) (.k rfl <| .nil) rfl) ?_ ?_
  · rintro k ⟨hk0, hR0⟩
    refine Tr.norm (S' := [⟨5, true, _, _⟩, ⟨1, true, _, _⟩, ⟨2, true, _, _⟩]) (M' := [⟨2, _, _⟩]) rfl rfl ?_
    refine Tr.seq ?_
    refine Tr.seq ?_
    refine Tr.rg ?_
    refine TrL.op (ok_move rfl (fun _ => rfl)) rfl rfl ?_
    refine TrL.op (ok_move rfl (fun _ => rfl)) rfl rfl ?_
    refine TrL.op (ok_lenJ rfl (fun _ => rfl)) rfl rfl ?_
    refine TrL.op (ok_lss rfl (fun _ => rfl) rfl (fun _ => rfl)) rfl rfl ?_
    refine TrL.fin ?_
    refine End.nxt ?_
    refine Tr.cnd rfl ?_ ?_
    · intro h2
      replace h2 := of_decide_eq_true h2
      refine Tr.skip ?_
      refine End.nxt ?_
      refine Tr.seq ?_
      refine Tr.blk ?_
      refine Tr.seq ?_
      refine Tr.draw 5 mixed (by kernel_rfl) ?_
      have hks := hl _ (nth_mem (xs := l) (i := k) (by omega))
      refine RunD.op (ok_ldBS rfl (fun _ => rfl)) rfl rfl ?_
      refine RunD.op (ok_move rfl (fun _ => rfl)) rfl rfl ?_
      refine RunD.op (ok_move rfl (fun _ => rfl)) rfl rfl ?_
      first | refine RunD.op (ok_idxN rfl (fun _ => rfl) rfl (fun _ => rfl) rfl (fun _ => by omega)) rfl rfl ?_ | refine RunD.op (ok_idxP rfl (fun _ => rfl) rfl (fun _ => rfl) rfl (fun _ => by omega)) rfl rfl ?_
      refine RunD.op (ok_ldP rfl (fun _ => rfl) rfl) rfl rfl ?_
      refine RunD.z ?_
      refine TrL.op (ok_call (fun hp => ct_rOrder _ _ v hks) (.s rfl (fun _ => rfl) rfl <| .a rfl (fun _ => rfl) <| .nil)) rfl rfl ?_
      refine TrL.op (ok_gtr rfl (fun _ => rfl) rfl (fun _ => rfl)) rfl rfl ?_
      refine TrL.fin ?_
      refine End.nxt ?_
      refine Tr.cnd rfl ?_ ?_
      · intro h4
        replace h4 := of_decide_eq_true h4
        refine Tr.seq ?_
        refine Tr.rg ?_
        refine TrL.op (ok_assign rfl (fun _ => rfl)) rfl rfl ?_
        refine TrL.fin ?_
        refine End.nxt ?_
        refine Tr.ret ?_
        refine Rts.out ?_
        refine Rts.thn ?_
        refine Rts.thn ?_
        refine Rts.out ?_
        refine Rts.thn ?_
        refine Rts.thn ?_
        exact Rts.res1 (fn := Tryz.f55) rfl (.b rfl (by rw [posR_at (k := k) (by omega) (by omega)]; rfl) <| .nil)
      · intro h4
        replace h4 := Int.not_lt.1 (of_decide_eq_false h4)
        refine Tr.skip ?_
        refine End.blk ?_
        refine End.nxt ?_
        refine Tr.rg ?_
        refine TrL.op (ok_move rfl (fun _ => rfl)) rfl rfl ?_
        refine TrL.op (ok_add rfl (fun _ => rfl) rfl (fun _ => rfl) (fun _ => by omega)) rfl rfl ?_
        refine TrL.op (ok_assign rfl (fun _ => rfl)) rfl rfl ?_
        refine TrL.fin ?_
        exact End.lp (k + 1) ⟨by omega, all_succ hR0 (by omega)⟩ (by omega) (Ent.mk (.i rfl (by first | rfl | omega | (simp; done) | (simp; omega) | assumption) <| .k rfl rfl <| .k rfl rfl <| .nil) (.k rfl <| .nil) rfl)
    · intro h2
      replace h2 := Int.not_lt.1 (of_decide_eq_false h2)
      refine Tr.exit ?_
      refine Exs.thn ?_
      refine Exs.thn ?_
      refine Exs.here ?_
      exact End.cut (k) (fun i hi => hR0 i (by omega)) (Ent.mk (.i rfl (by first | rfl | omega | (simp; done) | (simp; omega) | assumption) <| .k rfl rfl <| .k rfl rfl <| .nil) (.k rfl <| .nil) rfl)
  · intro k hE0
    refine End.norm (S' := [⟨5, true, _, _⟩, ⟨1, true, _, _⟩, ⟨2, true, _, _⟩]) (M' := [⟨2, _, _⟩]) rfl rfl ?_
    refine End.nxt ?_
    refine Tr.seq ?_
    refine Tr.rg ?_
    refine TrL.op (ok_assign rfl (fun _ => rfl)) rfl rfl ?_
    refine TrL.fin ?_
    refine End.nxt ?_
    refine Tr.ret ?_
    exact Rts.res1 (fn := Tryz.f55) rfl (.b rfl (by rw [posR_none hE0]; rfl) <| .nil)

set_option maxRecDepth 100000 in
theorem ct_rLeast (b : BandT) (h0 : 0 < b.2.2.length) (hl : ∀ l ∈ b.2.2, 0 < l.length ∧ l.length ≤ 60) (hn : b.2.2.length ≤ 60) : Ct Tryz.prog 58 [kRd eBand b] (kI (keyB b)) := by
  have h00 := (hl _ (nth_mem h0)).1
  have hrw := fun (k : Nat) (h : k < b.2.2.length) => hl _ (nth_mem h)
  refine Ct.mk Tryz.func58 rfl Tryz.ntmps58 rfl (fun w J => ?_)
  refine Tr.seq ?_
  refine Tr.rg ?_
  refine TrL.new (ok_box 1 rfl (fun _ => rfl) rfl) rfl rfl rfl rfl ?_
  refine TrL.op (ok_assign rfl (fun _ => rfl)) rfl rfl ?_
  refine TrL.fin ?_
  refine End.nxt ?_
  refine Tr.seq ?_
  refine Tr.rg ?_
  refine TrL.op (ok_fldO rfl (fun _ => rfl)) rfl rfl ?_
  refine TrL.op (ok_ldB rfl (fun _ => rfl) rfl) rfl rfl ?_
  refine TrL.op (ok_idxN (i := 0) rfl (fun _ => rfl) rfl (fun _ => rfl) rfl (fun _ => by omega)) rfl rfl ?_
  refine TrL.op (ok_ldP rfl (fun _ => rfl) rfl) rfl rfl ?_
  refine TrL.op (ok_idxN (i := 0) rfl (fun _ => rfl) rfl (fun _ => rfl) rfl (fun _ => by omega)) rfl rfl ?_
  refine TrL.op (ok_ldP rfl (fun _ => rfl) rfl) rfl rfl ?_
  refine TrL.op (ok_assign rfl (fun _ => rfl)) rfl rfl ?_
  refine TrL.fin ?_
  refine End.nxt ?_
  refine Tr.seq ?_
  refine Tr.seq ?_
  refine Tr.rg ?_
  refine TrL.op (ok_assign rfl (fun _ => rfl)) rfl rfl ?_
  refine TrL.fin ?_
  refine End.nxt ?_
  refine Tr.for1 (σ := Nat) [⟨1, true, _, _⟩] [⟨1, _, _⟩] (fun k => [⟨4, true, [], kI (k : Int)⟩, ⟨3, true, [], kI (lsK b.2.2 k)⟩]) (fun k => []) (fun k => k ≤ b.2.2.length) (fun k => k = b.2.2.length) (fun k => b.2.2.length - k) (0) (Nat.zero_le _) (Ent.mk (.i rfl (by first | rfl | omega | (simp; done) | (simp; omega) | assumption) <| .i rfl (by rfl) <| .k rfl rfl <| .nil) (.k rfl <| .nil) rfl) ?_ ?_
  · intro k hR0
    refine Tr.norm (S' := [⟨4, true, _, _⟩, ⟨3, true, _, _⟩, ⟨1, true, _, _⟩]) (M' := [⟨1, _, _⟩]) rfl rfl ?_
    have hrk := hrw k
    refine Tr.seq ?_
    refine Tr.seq ?_
    refine Tr.rg ?_
    refine TrL.op (ok_move rfl (fun _ => rfl)) rfl rfl ?_
    refine TrL.op (ok_fldO rfl (fun _ => rfl)) rfl rfl ?_
    refine TrL.op (ok_ldB rfl (fun _ => rfl) rfl) rfl rfl ?_
    refine TrL.op (ok_lenJ rfl (fun _ => rfl)) rfl rfl ?_
    refine TrL.op (ok_lss rfl (fun _ => rfl) rfl (fun _ => rfl)) rfl rfl ?_
    refine TrL.fin ?_
    refine End.nxt ?_
    refine Tr.cnd rfl ?_ ?_
    · intro h3
      replace h3 := of_decide_eq_true h3
      have hrk2 := hrk (by omega)
      refine Tr.skip ?_
      refine End.nxt ?_
      refine Tr.seq ?_
      refine Tr.blk ?_
      refine Tr.seq ?_
      refine Tr.rg ?_
      refine TrL.op (ok_assign rfl (fun _ => rfl)) rfl rfl ?_
      refine TrL.fin ?_
      refine End.nxt ?_
      refine Tr.for1 (σ := Nat) [⟨1, true, _, _⟩, ⟨4, true, _, _⟩] [⟨1, _, _⟩] (fun j => [⟨5, true, [], kI (j : Int)⟩, ⟨3, true, [], kI (minTo (nth b.2.2 k) (lsK b.2.2 k) j)⟩]) (fun j => []) (fun j => j ≤ (nth b.2.2 k).length) (fun j => j = (nth b.2.2 k).length) (fun j => (nth b.2.2 k).length - j) (0) (Nat.zero_le _) (Ent.mk (.i rfl (by first | rfl | omega | (simp; done) | (simp; omega) | assumption) <| .i rfl (by rfl) <| .k rfl rfl <| .k rfl rfl <| .nil) (.k rfl <| .nil) rfl) ?_ ?_
      · intro j hR1
        refine Tr.norm (S' := [⟨5, true, _, _⟩, ⟨3, true, _, _⟩, ⟨1, true, _, _⟩, ⟨4, true, _, _⟩]) (M' := [⟨1, _, _⟩]) rfl rfl ?_
        refine Tr.seq ?_
        refine Tr.seq ?_
        refine Tr.rg ?_
        refine TrL.op (ok_move rfl (fun _ => rfl)) rfl rfl ?_
        refine TrL.op (ok_fldO rfl (fun _ => rfl)) rfl rfl ?_
        refine TrL.op (ok_ldB rfl (fun _ => rfl) rfl) rfl rfl ?_
        refine TrL.op (ok_move rfl (fun _ => rfl)) rfl rfl ?_
        first | refine TrL.op (ok_idxN rfl (fun _ => rfl) rfl (fun _ => rfl) rfl (fun _ => by omega)) rfl rfl ?_ | refine TrL.op (ok_idxP rfl (fun _ => rfl) rfl (fun _ => rfl) rfl (fun _ => by omega)) rfl rfl ?_
        refine TrL.op (ok_ldP rfl (fun _ => rfl) rfl) rfl rfl ?_
        refine TrL.op (ok_lenJ rfl (fun _ => rfl)) rfl rfl ?_
        refine TrL.op (ok_lss rfl (fun _ => rfl) rfl (fun _ => rfl)) rfl rfl ?_
        refine TrL.fin ?_
        refine End.nxt ?_
        refine Tr.cnd rfl ?_ ?_
        · intro h6
          replace h6 := of_decide_eq_true h6
          refine Tr.skip ?_
          refine End.nxt ?_
          refine Tr.seq ?_
          refine Tr.blk ?_
          refine Tr.rg ?_
          refine TrL.op (ok_move rfl (fun _ => rfl)) rfl rfl ?_
          refine TrL.op (ok_fldO rfl (fun _ => rfl)) rfl rfl ?_
          refine TrL.op (ok_ldB rfl (fun _ => rfl) rfl) rfl rfl ?_
          refine TrL.op (ok_move rfl (fun _ => rfl)) rfl rfl ?_
          first | refine TrL.op (ok_idxN rfl (fun _ => rfl) rfl (fun _ => rfl) rfl (fun _ => by omega)) rfl rfl ?_ | refine TrL.op (ok_idxP rfl (fun _ => rfl) rfl (fun _ => rfl) rfl (fun _ => by omega)) rfl rfl ?_
          refine TrL.op (ok_ldP rfl (fun _ => rfl) rfl) rfl rfl ?_
          refine TrL.op (ok_move rfl (fun _ => rfl)) rfl rfl ?_
          first | refine TrL.op (ok_idxN rfl (fun _ => rfl) rfl (fun _ => rfl) rfl (fun _ => by omega)) rfl rfl ?_ | refine TrL.op (ok_idxP rfl (fun _ => rfl) rfl (fun _ => rfl) rfl (fun _ => by omega)) rfl rfl ?_
          refine TrL.op (ok_ldP rfl (fun _ => rfl) rfl) rfl rfl ?_
          refine TrL.op (ok_min rfl (fun _ => rfl) rfl (fun _ => rfl)) rfl rfl ?_
          refine TrL.op (ok_assign rfl (fun _ => rfl)) rfl rfl ?_
          refine TrL.fin ?_
          refine End.blk ?_
          refine End.nxt ?_
          refine Tr.rg ?_
          refine TrL.op (ok_move rfl (fun _ => rfl)) rfl rfl ?_
          refine TrL.op (ok_add rfl (fun _ => rfl) rfl (fun _ => rfl) (fun _ => by omega)) rfl rfl ?_
          refine TrL.op (ok_assign rfl (fun _ => rfl)) rfl rfl ?_
          refine TrL.fin ?_
          exact End.lp (j + 1) (by first | rfl | omega | (simp; done) | (simp; omega) | assumption) (by omega) (Ent.mk (.i rfl (by first | rfl | omega | (simp; done) | (simp; omega) | assumption) <| .i rfl (by rfl) <| .k rfl rfl <| .k rfl rfl <| .nil) (.k rfl <| .nil) rfl)
        · intro h6
          replace h6 := Int.not_lt.1 (of_decide_eq_false h6)
          refine Tr.exit ?_
          refine Exs.thn ?_
          refine Exs.thn ?_
          refine Exs.here ?_
          exact End.cut (j) (by omega) (Ent.mk (.i rfl (by first | rfl | omega | (simp; done) | (simp; omega) | assumption) <| .i rfl (by first | rfl | omega | (simp; done) | (simp; omega) | assumption) <| .k rfl rfl <| .k rfl rfl <| .nil) (.k rfl <| .nil) rfl)
      · rintro _ rfl
        refine End.norm (S' := [⟨5, true, _, _⟩, ⟨3, true, _, _⟩, ⟨1, true, _, _⟩, ⟨4, true, _, _⟩]) (M' := [⟨1, _, _⟩]) rfl rfl ?_
        refine End.blk ?_
        refine End.nxt ?_
        refine Tr.rg ?_
        refine TrL.op (ok_move rfl (fun _ => rfl)) rfl rfl ?_
        refine TrL.op (ok_add rfl (fun _ => rfl) rfl (fun _ => rfl) (fun _ => by omega)) rfl rfl ?_
        refine TrL.op (ok_assign rfl (fun _ => rfl)) rfl rfl ?_
        refine TrL.fin ?_
        exact End.lp (k + 1) (by first | rfl | omega | (simp; done) | (simp; omega) | assumption) (by omega) (Ent.mk (.i rfl (by first | rfl | omega | (simp; done) | (simp; omega) | assumption) <| .i rfl (lsK_succ (by omega)) <| .k rfl rfl <| .nil) (.k rfl <| .nil) rfl)
    · intro h3
      replace h3 := Int.not_lt.1 (of_decide_eq_false h3)
      refine Tr.exit ?_
      refine Exs.thn ?_
      refine Exs.thn ?_
      refine Exs.here ?_
      exact End.cut (k) (by omega) (Ent.mk (.i rfl (by first | rfl | omega | (simp; done) | (simp; omega) | assumption) <| .i rfl (by first | rfl | omega | (simp; done) | (simp; omega) | assumption) <| .k rfl rfl <| .nil) (.k rfl <| .nil) rfl)
  · rintro _ rfl
    refine End.norm (S' := [⟨4, true, _, _⟩, ⟨3, true, _, _⟩, ⟨1, true, _, _⟩]) (M' := [⟨1, _, _⟩]) rfl rfl ?_
    refine End.nxt ?_
    refine Tr.seq ?_
    refine Tr.rg ?_
    refine TrL.op (ok_move rfl (fun _ => rfl)) rfl rfl ?_
    refine TrL.op (ok_assign rfl (fun _ => rfl)) rfl rfl ?_
    refine TrL.fin ?_
    refine End.nxt ?_
    refine Tr.ret ?_
    exact Rts.res1 (fn := Tryz.f58) rfl (.i rfl (by rfl) <| .nil)

set_option maxRecDepth 100000 in
set_option maxHeartbeats 1000000 in
theorem ct_rBand (o : Ori) (z : Int) (m : Bool) (v : Valid o) (hz : Sq o.1.length z) : Ct Tryz.prog 57 [kRd eO o, kRd (eL eI) (orb o.1 z), kB m] (kRd eBand (bandR o m (lwO (orb o.1 z)))) := by
  have hv0 := v.pos
  have hv1 := v.len
  have hv2 := v.le
  have hol := rowU_lenpos v hz (i := 0)
  have hoL := rowU_le v hz (i := 0)
  have hol1 : 0 < (orb o.1 z).length := hol
  have hol2 : (orb o.1 z).length ≤ o.1.length := hoL
  obtain ⟨hsm, hss⟩ := lwO_sq v hz
  obtain ⟨g1, g2, g3, g4⟩ := hgR_spec (m := m) v hss
  refine Ct.mk Tryz.func57 rfl Tryz.ntmps57 rfl (fun w J => ?_)
  refine Tr.seq ?_
  refine Tr.rg ?_
  refine TrL.new (ok_box 3 rfl (fun _ => rfl) rfl) rfl rfl rfl rfl ?_
  refine TrL.new (ok_alloc 6) rfl rfl rfl rfl ?_
  refine TrL.fin ?_
  refine End.nxt ?_
  refine Tr.seq ?_
  refine Tr.rg ?_
  refine TrL.op (ok_move rfl (fun _ => rfl)) rfl rfl ?_
  refine TrL.op (ok_idxN (i := 0) rfl (fun _ => rfl) rfl (fun _ => rfl) rfl (fun _ => by omega)) rfl rfl ?_
  refine TrL.op (ok_ldP rfl (fun _ => rfl) rfl) rfl rfl ?_
  refine TrL.op (ok_assign rfl (fun _ => rfl)) rfl rfl ?_
  refine TrL.fin ?_
  refine End.nxt ?_
  refine Tr.seq ?_
  refine Tr.seq ?_
  refine Tr.rg ?_
  refine TrL.op (ok_assign rfl (fun _ => rfl)) rfl rfl ?_
  refine TrL.fin ?_
  refine End.nxt ?_
  refine Tr.for1 (σ := Nat) [⟨1, true, _, _⟩, ⟨2, true, _, _⟩, ⟨3, true, _, _⟩, ⟨6, true, _, _⟩] [⟨3, _, _⟩, ⟨6, _, _⟩] (fun k => [⟨8, true, [], kI (k : Int)⟩, ⟨7, true, [], kI (minTo (orb o.1 z) (nth (orb o.1 z) 0) k)⟩]) (fun k => []) (fun k => k ≤ (orb o.1 z).length) (fun k => k = (orb o.1 z).length) (fun k => (orb o.1 z).length - k) (0) (Nat.zero_le _) (Ent.mk (.i rfl (by first | rfl | omega | (simp; done) | (simp; omega) | assumption) <| .i rfl (by rfl) <| .k rfl rfl <| .k rfl rfl <| .k rfl rfl <| .k rfl rfl <| .nil) (.k rfl <| .k rfl <| .nil) rfl) ?_ ?_
  · intro k hR0
    refine Tr.norm (S' := [⟨8, true, _, _⟩, ⟨7, true, _, _⟩, ⟨1, true, _, _⟩, ⟨2, true, _, _⟩, ⟨3, true, _, _⟩, ⟨6, true, _, _⟩]) (M' := [⟨3, _, _⟩, ⟨6, _, _⟩]) rfl rfl ?_
    refine Tr.seq ?_
    refine Tr.seq ?_
    refine Tr.rg ?_
    refine TrL.op (ok_move rfl (fun _ => rfl)) rfl rfl ?_
    refine TrL.op (ok_move rfl (fun _ => rfl)) rfl rfl ?_
    refine TrL.op (ok_lenJ rfl (fun _ => rfl)) rfl rfl ?_
    refine TrL.op (ok_lss rfl (fun _ => rfl) rfl (fun _ => rfl)) rfl rfl ?_
    refine TrL.fin ?_
    refine End.nxt ?_
    refine Tr.cnd rfl ?_ ?_
    · intro h3
      replace h3 := of_decide_eq_true h3
      refine Tr.skip ?_
      refine End.nxt ?_
      refine Tr.seq ?_
      refine Tr.blk ?_
      refine Tr.rg ?_
      refine TrL.op (ok_move rfl (fun _ => rfl)) rfl rfl ?_
      refine TrL.op (ok_move rfl (fun _ => rfl)) rfl rfl ?_
      refine TrL.op (ok_move rfl (fun _ => rfl)) rfl rfl ?_
      first | refine TrL.op (ok_idxN rfl (fun _ => rfl) rfl (fun _ => rfl) rfl (fun _ => by omega)) rfl rfl ?_ | refine TrL.op (ok_idxP rfl (fun _ => rfl) rfl (fun _ => rfl) rfl (fun _ => by omega)) rfl rfl ?_
      refine TrL.op (ok_ldP rfl (fun _ => rfl) rfl) rfl rfl ?_
      refine TrL.op (ok_min rfl (fun _ => rfl) rfl (fun _ => rfl)) rfl rfl ?_
      refine TrL.op (ok_assign rfl (fun _ => rfl)) rfl rfl ?_
      refine TrL.fin ?_
      refine End.blk ?_
      refine End.nxt ?_
      refine Tr.rg ?_
      refine TrL.op (ok_move rfl (fun _ => rfl)) rfl rfl ?_
      refine TrL.op (ok_add rfl (fun _ => rfl) rfl (fun _ => rfl) (fun _ => by omega)) rfl rfl ?_
      refine TrL.op (ok_assign rfl (fun _ => rfl)) rfl rfl ?_
      refine TrL.fin ?_
      exact End.lp (k + 1) (by first | rfl | omega | (simp; done) | (simp; omega) | assumption) (by omega) (Ent.mk (.i rfl (by first | rfl | omega | (simp; done) | (simp; omega) | assumption) <| .i rfl (by rfl) <| .k rfl rfl <| .k rfl rfl <| .k rfl rfl <| .k rfl rfl <| .nil) (.k rfl <| .k rfl <| .nil) rfl)
    · intro h3
      replace h3 := Int.not_lt.1 (of_decide_eq_false h3)
      refine Tr.exit ?_
      refine Exs.thn ?_
      refine Exs.thn ?_
      refine Exs.here ?_
      exact End.cut (k) (by omega) (Ent.mk (.i rfl (by first | rfl | omega | (simp; done) | (simp; omega) | assumption) <| .i rfl (by first | rfl | omega | (simp; done) | (simp; omega) | assumption) <| .k rfl rfl <| .k rfl rfl <| .k rfl rfl <| .k rfl rfl <| .nil) (.k rfl <| .k rfl <| .nil) rfl)
  · rintro _ rfl
    refine End.norm (S' := [⟨8, true, _, _⟩, ⟨7, true, _, _⟩, ⟨1, true, _, _⟩, ⟨2, true, _, _⟩, ⟨3, true, _, _⟩, ⟨6, true, _, _⟩]) (M' := [⟨3, _, _⟩, ⟨6, _, _⟩]) rfl rfl ?_
    refine End.nxt ?_
    refine Tr.seq ?_
    refine Tr.rwI (s := 7) rfl (show minTo (orb o.1 z) (nth (orb o.1 z) 0) (orb o.1 z).length = lwO (orb o.1 z) from rfl) ?_
    refine Tr.rg ?_
    refine TrL.op (ok_move rfl (fun _ => rfl)) rfl rfl ?_
    refine TrL.op (ok_lenJ rfl (fun _ => rfl)) rfl rfl ?_
    refine TrL.op (ok_build (fun hp => .cons rfl rfl rfl <| .nil)) rfl rfl ?_
    refine TrL.new (ok_alloc 9) rfl rfl rfl rfl ?_
    refine TrL.stB rfl rfl rfl rfl ?_
    refine TrL.fin ?_
    refine End.nxt ?_
    refine Tr.seq ?_
    refine Tr.seq ?_
    refine Tr.rg ?_
    refine TrL.op (ok_move rfl (fun _ => rfl)) rfl rfl ?_
    refine TrL.op (ok_assign rfl (fun _ => rfl)) rfl rfl ?_
    refine TrL.fin ?_
    refine End.nxt ?_
    refine Tr.growC 9 2 60 rfl (ks' := [_, _, kOsl 60 0]) rfl rfl 22 (eL eI) rfl (.cons inferInstance rfl <| .cons inferInstance rfl <| .cons inferInstance rfl <| inferInstance) ?_
    refine Tr.for1 (σ := Nat) [⟨2, true, _, _⟩, ⟨3, true, _, _⟩, ⟨6, true, _, _⟩, ⟨7, true, _, _⟩, ⟨9, true, _, _⟩] [⟨3, _, _⟩, ⟨6, _, _⟩] (fun i => [⟨10, true, [], kI (it o.2 i (lwO (orb o.1 z)))⟩]) (fun i => [⟨9, [60], cBlk [kI ((orb o.1 z).length : Int), kI 0, kOsl 60 i]⟩, ⟨60, [], cArr true 22 (eL eI) (rowsT o (lwO (orb o.1 z)) i) i⟩]) (fun i => i ≤ (hgR o m (lwO (orb o.1 z)))) (fun i => i = (hgR o m (lwO (orb o.1 z)))) (fun i => (hgR o m (lwO (orb o.1 z))) + 1 - i) (0) (Nat.zero_le _) (Ent.mk (.i rfl (by rfl) <| .k rfl rfl <| .k rfl rfl <| .k rfl rfl <| .k rfl rfl <| .k rfl rfl <| .nil) (.e (by rfl) rfl <| .a (by rfl) (by first | rfl | omega | (simp; done) | (simp; omega) | assumption) <| .k rfl <| .k rfl <| .nil) rfl) ?_ ?_
    · intro i hR1
      refine Tr.norm (S' := [⟨10, true, _, _⟩, ⟨2, true, _, _⟩, ⟨3, true, _, _⟩, ⟨6, true, _, _⟩, ⟨7, true, _, _⟩, ⟨9, true, _, _⟩]) (M' := [⟨9, _, _⟩, ⟨60, _, _⟩, ⟨3, _, _⟩, ⟨6, _, _⟩]) rfl rfl ?_
      have hxi := v.pU.its hss i
      have hxi0 := hxi.1
      have hxi1 := hxi.2
      refine Tr.seq ?_
      refine Tr.blk ?_
      refine Tr.seq ?_
      refine Tr.rg ?_
      refine TrL.op (ok_fldO rfl (fun _ => rfl)) rfl rfl ?_
      refine TrL.op (ok_ldB rfl (fun _ => rfl) rfl) rfl rfl ?_
      refine TrL.op (ok_move rfl (fun _ => rfl)) rfl rfl ?_
      refine TrL.op (ok_call (fun hp => ct_rCycle _ _ _ v.pR hxi (by omega)) (.a rfl (fun _ => rfl) <| .a rfl (fun _ => rfl) <| .nil)) rfl rfl ?_
      refine TrL.op (ok_assign rfl (fun _ => rfl)) rfl rfl ?_
      refine TrL.fin ?_
      refine End.nxt ?_
      refine Tr.seq ?_
      refine Tr.seq ?_
      refine Tr.rg ?_
      refine TrL.op (ok_fldO rfl (fun _ => rfl)) rfl rfl ?_
      refine TrL.op (ok_ldB rfl (fun _ => rfl) rfl) rfl rfl ?_
      refine TrL.op (ok_lenO rfl (fun _ => rfl)) rfl rfl ?_
      refine TrL.op (ok_gtr rfl (fun _ => rfl) rfl (fun _ => rfl)) rfl rfl ?_
      refine TrL.op (ok_move rfl (fun _ => rfl)) rfl rfl ?_
      refine TrL.gd rfl rfl rfl (ok_move rfl (fun _ => rfl)) rfl rfl ?_
      refine TrL.gd rfl rfl rfl (ok_move rfl id) rfl rfl ?_
      refine TrL.gd rfl rfl rfl (ok_ldBS rfl (fun _ => rfl)) rfl rfl ?_
      refine TrL.gd rfl rfl rfl (ok_move rfl (fun _ => rfl)) rfl rfl ?_
      refine TrL.gd rfl rfl rfl (ok_call (fun hp => ct_rSmooth _ _ v (rowU_sq v hss)) (.s rfl id rfl <| .a rfl id <| .nil)) rfl rfl ?_
      refine TrL.gd rfl rfl rfl (ok_not rfl id) rfl rfl ?_
      refine TrL.gd rfl rfl rfl (ok_or rfl id rfl (fun hp h => gdF2 (id hp) h)) rfl rfl ?_
      refine TrL.gd rfl rfl rfl (ok_move rfl id) rfl rfl ?_
      refine TrL.gd rfl rfl rfl (ok_move rfl (fun _ => rfl)) rfl rfl ?_
      refine TrL.gd rfl rfl rfl (ok_move rfl (fun _ => rfl)) rfl rfl ?_
      refine TrL.gd rfl rfl rfl (ok_call (fun hp => ct_rAt _ _) (.a rfl id <| .a rfl id <| .nil)) rfl rfl ?_
      refine TrL.gd rfl rfl rfl (ok_geq rfl id rfl (fun _ => rfl)) rfl rfl ?_
      refine TrL.gd rfl rfl rfl (ok_or rfl id rfl (fun hp h => gdF2 (id hp) h)) rfl rfl ?_
      refine TrL.op (ok_and rfl (fun _ => rfl) rfl (fun hp h => gdT2 ((fun _ => rfl) hp) h)) rfl rfl ?_
      refine TrL.fin ?_
      refine End.nxt ?_
      refine Tr.cnd rfl ?_ ?_
      · intro h10
        have h10 : 0 < i ∧ stopR o m (lwO (orb o.1 z)) i = true := by (rw [← rstop]; simpa [rowU] using h10)
        refine Tr.exit ?_
        refine Exs.thn ?_
        refine Exs.out rfl ?_
        refine Exs.thn ?_
        refine Exs.thn ?_
        refine Exs.here ?_
        exact End.cut (i) (hgR_stop v hss hR1 h10.1 h10.2) (Ent.mk (.i rfl (by first | rfl | omega | (simp; done) | (simp; omega) | assumption) <| .k rfl rfl <| .k rfl rfl <| .k rfl rfl <| .k rfl rfl <| .k rfl rfl <| .nil) (.e (by rfl) rfl <| .a (by first | rfl | omega | (simp; done) | (simp; omega) | assumption) (by first | rfl | omega | (simp; done) | (simp; omega) | assumption) <| .k rfl <| .k rfl <| .nil) rfl)
      · intro h10
        have hgo := hgR_go (i := i) v hss hR1 (fun h => by (rw [← rstop]; simpa [rowU, h] using h10))
        refine Tr.skip ?_
        refine End.nxt ?_
        refine Tr.rg ?_
        refine TrL.op (ok_fldO rfl (fun _ => rfl)) rfl rfl ?_
        refine TrL.op (ok_ldB rfl (fun _ => rfl) rfl) rfl rfl ?_
        refine TrL.op (ok_move rfl (fun _ => rfl)) rfl rfl ?_
        refine TrL.new (ok_bsl (eL eI) 62 (fun hp => .cons rfl <| .nil) rfl rfl rfl rfl) rfl rfl rfl rfl ?_
        refine TrL.wkC 9 (.k <| .k <| .any <| .nil) rfl ?_
        refine TrL.app rfl rfl rfl rfl rfl rfl rfl rfl (by first | omega | (simp only [List.length_cons, List.length_nil]; omega)) (by first | omega | (simp only [List.length_cons, List.length_nil]; omega)) ?_
        refine TrL.norm (S' := ⟨_, _, _, _⟩ :: ⟨_, _, _, _⟩ :: ⟨_, _, _, _⟩ :: ⟨_, _, _, _⟩ :: ⟨_, _, _, _⟩ :: ⟨_, _, _, _⟩ :: ⟨_, _, _, _⟩ :: ⟨_, _, _, _⟩ :: ⟨_, _, _, _⟩ :: ⟨_, _, _, _⟩ :: ⟨_, _, _, _⟩ :: ⟨_, _, _, _⟩ :: ⟨_, _, _, _⟩ :: ⟨_, _, _, _⟩ :: ⟨_, _, _, _⟩ :: ⟨_, _, _, _⟩ :: ⟨_, _, _, _⟩ :: ⟨_, _, _, _⟩ :: ⟨_, _, _, _⟩ :: ⟨_, _, _, _⟩ :: ⟨_, _, _, _⟩ :: ⟨_, _, _, _⟩ :: ⟨_, _, _, _⟩ :: ⟨_, _, _, _⟩ :: ⟨_, _, _, _⟩ :: ⟨_, _, _, _⟩ :: ⟨_, _, _, _⟩ :: ⟨_, _, _, _⟩ :: ⟨_, _, _, _⟩ :: ⟨_, _, _, _⟩ :: ⟨_, _, _, _⟩ :: ⟨_, _, _, _⟩ :: ⟨_, _, _, _⟩ :: ⟨_, _, _, _⟩ :: ⟨_, _, _, _⟩ :: []) rfl rfl ?_
        refine TrL.op (ok_fldO rfl (fun _ => rfl)) rfl rfl ?_
        refine TrL.stB rfl rfl rfl rfl ?_
        refine TrL.fin ?_
        refine End.blk ?_
        refine End.nxt ?_
        refine Tr.rg ?_
        refine TrL.op (ok_fldO rfl (fun _ => rfl)) rfl rfl ?_
        refine TrL.op (ok_ldB rfl (fun _ => rfl) rfl) rfl rfl ?_
        refine TrL.op (ok_move rfl (fun _ => rfl)) rfl rfl ?_
        first | refine TrL.op (ok_idxN rfl (fun _ => rfl) rfl (fun _ => rfl) rfl (fun _ => by omega)) rfl rfl ?_ | refine TrL.op (ok_idxP rfl (fun _ => rfl) rfl (fun _ => rfl) rfl (fun _ => by omega)) rfl rfl ?_
        refine TrL.op (ok_ldP rfl (fun _ => rfl) rfl) rfl rfl ?_
        refine TrL.op (ok_assign rfl (fun _ => rfl)) rfl rfl ?_
        refine TrL.fin ?_
        exact End.lp (i + 1) hgo (by omega) (Ent.mk (.i rfl (by rfl) <| .k rfl rfl <| .k rfl rfl <| .k rfl rfl <| .k rfl rfl <| .k rfl rfl <| .nil) (.e (by rfl) rfl <| .a (by rw [rowsT_succ]; rfl) (by first | rfl | omega | (simp; done) | (simp; omega) | assumption) <| .k rfl <| .k rfl <| .nil) rfl)
    · rintro _ rfl
      refine End.norm (S' := [⟨10, true, _, _⟩, ⟨2, true, _, _⟩, ⟨3, true, _, _⟩, ⟨6, true, _, _⟩, ⟨7, true, _, _⟩, ⟨9, true, _, _⟩]) (M' := [⟨9, _, _⟩, ⟨60, _, _⟩, ⟨3, _, _⟩, ⟨6, _, _⟩]) rfl rfl ?_
      refine End.nxt ?_
      refine Tr.seq ?_
      refine Tr.rg ?_
      refine TrL.op (ok_fldO rfl (fun _ => rfl)) rfl rfl ?_
      refine TrL.op (ok_ldB rfl (fun _ => rfl) rfl) rfl rfl ?_
      refine TrL.op (ok_lenO rfl (fun _ => rfl)) rfl rfl ?_
      refine TrL.op (ok_fldO rfl (fun _ => rfl)) rfl rfl ?_
      refine TrL.stB rfl rfl rfl rfl ?_
      refine TrL.fin ?_
      refine End.nxt ?_
      refine Tr.seq ?_
      refine Tr.rg ?_
      refine TrL.op (ok_ldBS rfl (fun _ => rfl)) rfl rfl ?_
      refine TrL.stB rfl rfl rfl rfl ?_
      refine TrL.fin ?_
      refine End.nxt ?_
      refine Tr.ent (S' := [⟨6, true, _, _⟩]) (M' := [⟨6, _, _⟩, ⟨60, _, _⟩]) (Ent.mk (.k rfl rfl <| .nil) (.k rfl <| .k rfl <| .nil) rfl) ?_
      refine Tr.frzC 60 6 (by simp only [lenMax]; omega) rfl rfl ?_
      refine Tr.ret ?_
      exact Rts.resC1 (fn := Tryz.f57) rfl rfl (aggRd rfl (by unfold bandR; rw [per_lwO v hz]))

set_option maxRecDepth 100000 in
set_option maxHeartbeats 2000000 in
theorem ct_rCylinders (o : Ori) (m : Bool) (v : Valid o) : Ct Tryz.prog 20 [kRd eO o, kB m] (kRd (eL eBand) (refL o m o.1.length)) := by
  have hv0 := v.pos
  have hv1 := v.len
  have hv2 := v.le
  have hiL := invL_len o.2
  refine Ct.mk Tryz.func20 rfl Tryz.ntmps20 rfl (fun w J => ?_)
  refine Tr.seq ?_
  refine Tr.rg ?_
  refine TrL.new (ok_box 2 rfl (fun _ => rfl) rfl) rfl rfl rfl rfl ?_
  refine TrL.op (ok_assign rfl (fun _ => rfl)) rfl rfl ?_
  refine TrL.fin ?_
  refine End.nxt ?_
  refine Tr.seq ?_
  refine Tr.rg ?_
  refine TrL.op (ok_fldO rfl (fun _ => rfl)) rfl rfl ?_
  refine TrL.op (ok_ldB rfl (fun _ => rfl) rfl) rfl rfl ?_
  refine TrL.op (ok_call (fun hp => ct_rInv2 _ v.pU (by omega)) (.a rfl (fun _ => rfl) <| .nil)) rfl rfl ?_
  refine TrL.op (ok_assign rfl (fun _ => rfl)) rfl rfl ?_
  refine TrL.fin ?_
  refine End.nxt ?_
  refine Tr.seq ?_
  refine Tr.rg ?_
  refine TrL.op (ok_assign rfl (fun _ => rfl)) rfl rfl ?_
  refine TrL.fin ?_
  refine End.nxt ?_
  refine Tr.seq ?_
  refine Tr.seq ?_
  refine Tr.rg ?_
  refine TrL.op (ok_assign rfl (fun _ => rfl)) rfl rfl ?_
  refine TrL.fin ?_
  refine End.nxt ?_
  refine Tr.grow (s := 6) rfl rfl 6 rfl 52 eBand rfl ?_
  refine Tr.for1 (σ := Nat) [⟨1, true, _, _⟩, ⟨2, true, _, _⟩, ⟨5, true, _, _⟩] [⟨2, _, _⟩] (fun k => [⟨6, true, [6], kOsl 6 (refL o m k).length⟩, ⟨7, true, [], kI (k : Int)⟩]) (fun k => [⟨6, [], cArr true 52 eBand (refL o m k) (refL o m k).length⟩]) (fun k => k ≤ o.1.length) (fun k => k = o.1.length) (fun k => o.1.length - k) (0) (Nat.zero_le _) (Ent.mk (.o rfl (by first | rfl | omega | (simp; done) | (simp; omega) | assumption) rfl <| .i rfl (by first | rfl | omega | (simp; done) | (simp; omega) | assumption) <| .k rfl rfl <| .k rfl rfl <| .k rfl rfl <| .nil) (.a (by rfl) (by first | rfl | omega | (simp; done) | (simp; omega) | assumption) <| .k rfl <| .nil) rfl) ?_ ?_
  · intro k hR0
    refine Tr.norm (S' := [⟨6, true, _, _⟩, ⟨7, true, _, _⟩, ⟨1, true, _, _⟩, ⟨2, true, _, _⟩, ⟨5, true, _, _⟩]) (M' := [⟨6, _, _⟩, ⟨2, _, _⟩]) rfl rfl ?_
    have hrl := refL_len (o := o) (m := m) (k := k)
    refine Tr.seq ?_
    refine Tr.seq ?_
    refine Tr.rg ?_
    refine TrL.op (ok_move rfl (fun _ => rfl)) rfl rfl ?_
    refine TrL.op (ok_ldBS rfl (fun _ => rfl)) rfl rfl ?_
    refine TrL.op (ok_call (fun hp => ct_rSize _) (.s rfl (fun _ => rfl) rfl <| .nil)) rfl rfl ?_
    refine TrL.op (ok_lss rfl (fun _ => rfl) rfl (fun _ => rfl)) rfl rfl ?_
    refine TrL.fin ?_
    refine End.nxt ?_
    refine Tr.cnd rfl ?_ ?_
    · intro h4
      replace h4 := of_decide_eq_true h4
      have hks : Sq o.1.length (k : Int) := Sq.nat (by omega)
      refine Tr.skip ?_
      refine End.nxt ?_
      refine Tr.seq ?_
      refine Tr.blk ?_
      refine Tr.seq ?_
      refine Tr.rg ?_
      refine TrL.op (ok_fldO rfl (fun _ => rfl)) rfl rfl ?_
      refine TrL.op (ok_ldB rfl (fun _ => rfl) rfl) rfl rfl ?_
      refine TrL.op (ok_move rfl (fun _ => rfl)) rfl rfl ?_
      refine TrL.op (ok_call (fun hp => ct_rCycle _ _ _ v.pR hks (by omega)) (.a rfl (fun _ => rfl) <| .a rfl (fun _ => rfl) <| .nil)) rfl rfl ?_
      refine TrL.op (ok_assign rfl (fun _ => rfl)) rfl rfl ?_
      refine TrL.fin ?_
      refine End.nxt ?_
      refine Tr.seq ?_
      refine Tr.rg ?_
      refine TrL.op (ok_move rfl (fun _ => rfl)) rfl rfl ?_
      refine TrL.op (ok_assign rfl (fun _ => rfl)) rfl rfl ?_
      refine TrL.fin ?_
      refine End.nxt ?_
      refine Tr.seq ?_
      refine Tr.seq ?_
      refine Tr.rg ?_
      refine TrL.op (ok_assign rfl (fun _ => rfl)) rfl rfl ?_
      refine TrL.fin ?_
      refine End.nxt ?_
      refine Tr.for1 (σ := Nat × Int) [⟨1, true, _, _⟩, ⟨2, true, _, _⟩, ⟨5, true, _, _⟩, ⟨6, true, _, _⟩, ⟨7, true, _, _⟩, ⟨8, true, _, _⟩] [⟨2, _, _⟩, ⟨6, _, _⟩] (fun (r, a) => [⟨9, true, [], kI a⟩, ⟨10, true, [], kI (r : Int)⟩]) (fun (r, a) => []) (fun (r, a) => r ≤ o.1.length ∧ a = it (invL o.2) r k ∧ dnF o m k (o.1.length - r) r = dnF o m k o.1.length 0) (fun (r, a) => a = atR o m k) (fun (r, a) => o.1.length - r) ((0, (k : Int))) ⟨Nat.zero_le _, rfl, by rfl⟩ (Ent.mk (.i rfl (by first | rfl | omega | (simp; done) | (simp; omega) | assumption) <| .i rfl (by first | rfl | omega | (simp; done) | (simp; omega) | assumption) <| .k rfl rfl <| .k rfl rfl <| .k rfl rfl <| .k rfl rfl <| .k rfl rfl <| .k rfl rfl <| .nil) (.k rfl <| .k rfl <| .nil) rfl) ?_ ?_
      · rintro ⟨r, _⟩ ⟨hr, rfl, hdn⟩
        refine Tr.norm (S' := [⟨9, true, _, _⟩, ⟨10, true, _, _⟩, ⟨1, true, _, _⟩, ⟨2, true, _, _⟩, ⟨5, true, _, _⟩, ⟨6, true, _, _⟩, ⟨7, true, _, _⟩, ⟨8, true, _, _⟩]) (M' := [⟨2, _, _⟩, ⟨6, _, _⟩]) rfl rfl ?_
        have has := v.pU.inv.its hks r
        have has0 := has.1
        have has1 := has.2
        have has2 := v.pU.inv.its hks (r + 1)
        refine Tr.seq ?_
        refine Tr.seq ?_
        refine Tr.draw 14 mixed (by kernel_rfl) ?_
        refine RunD.op (ok_move rfl (fun _ => rfl)) rfl rfl ?_
        refine RunD.op (ok_ldBS rfl (fun _ => rfl)) rfl rfl ?_
        refine RunD.op (ok_call (fun hp => ct_rSize _) (.s rfl (fun _ => rfl) rfl <| .nil)) rfl rfl ?_
        refine RunD.op (ok_lss rfl (fun _ => rfl) rfl (fun _ => rfl)) rfl rfl ?_
        refine RunD.op (ok_move rfl (fun _ => rfl)) rfl rfl ?_
        refine RunD.gd rfl rfl rfl (ok_move rfl (fun _ => rfl)) rfl rfl ?_
        refine RunD.gd rfl rfl rfl (ok_not rfl id) rfl rfl ?_
        refine RunD.op (ok_and rfl (fun _ => rfl) rfl (fun hp h => gdT2 ((fun _ => rfl) hp) h)) rfl rfl ?_
        refine RunD.op (ok_move rfl (fun _ => rfl)) rfl rfl ?_
        refine RunD.gd rfl rfl rfl (ok_ldBS rfl (fun _ => rfl)) rfl rfl ?_
        refine RunD.gd rfl rfl rfl (ok_fldO rfl (fun _ => rfl)) rfl rfl ?_
        refine RunD.gd rfl rfl rfl (ok_ldB rfl id rfl) rfl rfl ?_
        refine RunD.gd rfl rfl rfl (ok_move rfl (fun _ => rfl)) rfl rfl ?_
        refine RunD.gd rfl rfl rfl (ok_call (fun hp => ct_rCycle _ _ _ v.pR has (by omega)) (.a rfl id <| .a rfl id <| .nil)) rfl rfl ?_
        refine RunD.z ?_
        refine TrL.gd rfl rfl rfl (ok_call (fun hp => ct_rSmooth _ _ v (fun y hy => v.pR.orb_rng has hy)) (.s rfl id rfl <| .a rfl id <| .nil)) rfl rfl ?_
        refine TrL.op (ok_and rfl (fun _ => rfl) rfl (fun hp h => gdT2 ((fun _ => rfl) hp) h)) rfl rfl ?_
        refine TrL.fin ?_
        refine End.nxt ?_
        refine Tr.cnd rfl ?_ ?_
        · intro h9
          have hlt : r < o.1.length := by (simp at h9; omega)
          have hnp : (m || posR o (orb o.1 (it (invL o.2) r k))) = false := by (simp at h9; simp [h9])
          have hfu : o.1.length - r = o.1.length - (r + 1) + 1 := by omega
          refine Tr.skip ?_
          refine End.nxt ?_
          refine Tr.seq ?_
          refine Tr.blk ?_
          refine Tr.seq ?_
          refine Tr.rg ?_
          refine TrL.op (ok_move rfl (fun _ => rfl)) rfl rfl ?_
          refine TrL.op (ok_move rfl (fun _ => rfl)) rfl rfl ?_
          first | refine TrL.op (ok_idxN rfl (fun _ => rfl) rfl (fun _ => rfl) rfl (fun _ => by omega)) rfl rfl ?_ | refine TrL.op (ok_idxP rfl (fun _ => rfl) rfl (fun _ => rfl) rfl (fun _ => by omega)) rfl rfl ?_
          refine TrL.op (ok_ldP rfl (fun _ => rfl) rfl) rfl rfl ?_
          refine TrL.op (ok_assign rfl (fun _ => rfl)) rfl rfl ?_
          refine TrL.fin ?_
          refine End.nxt ?_
          refine Tr.seq ?_
          refine Tr.rg ?_
          refine TrL.op (ok_move rfl (fun _ => rfl)) rfl rfl ?_
          refine TrL.op (ok_move rfl (fun _ => rfl)) rfl rfl ?_
          refine TrL.op (ok_call (fun hp => ct_rAt _ _) (.a rfl (fun _ => rfl) <| .a rfl (fun _ => rfl) <| .nil)) rfl rfl ?_
          refine TrL.op (ok_geq rfl (fun _ => rfl) rfl (fun _ => rfl)) rfl rfl ?_
          refine TrL.fin ?_
          refine End.nxt ?_
          refine Tr.cnd rfl ?_ ?_
          · intro h12
            replace h12 := of_decide_eq_true h12
            have hin : it (invL o.2) (r + 1) k ∈ orb o.1 k := Classical.byContradiction fun hh => absurd (atL_neg.2 hh) (Int.not_lt.2 h12)
            refine Tr.exit ?_
            refine Exs.out rfl ?_
            refine Exs.thn ?_
            refine Exs.thn ?_
            refine Exs.here ?_
            exact End.cut ((r, it (invL o.2) (r + 1) k)) (by unfold atR; rw [← hdn, hfu, dn_ring hnp hin]) (Ent.mk (.i rfl (by first | rfl | omega | (simp; done) | (simp; omega) | assumption) <| .i rfl (by first | rfl | omega | (simp; done) | (simp; omega) | assumption) <| .k rfl rfl <| .k rfl rfl <| .k rfl rfl <| .k rfl rfl <| .k rfl rfl <| .k rfl rfl <| .nil) (.k rfl <| .k rfl <| .nil) rfl)
          · intro h12
            replace h12 := Int.not_le.1 (of_decide_eq_false h12)
            have h12b : atL (orb o.1 k) (nth (invL o.2) (it (invL o.2) r k).toNat) < 0 := by omega
            have hin : it (invL o.2) (r + 1) k ∉ orb o.1 k := atL_neg.1 h12b
            refine Tr.skip ?_
            refine End.blk ?_
            refine End.nxt ?_
            refine Tr.rg ?_
            refine TrL.op (ok_move rfl (fun _ => rfl)) rfl rfl ?_
            refine TrL.op (ok_add rfl (fun _ => rfl) rfl (fun _ => rfl) (fun _ => by omega)) rfl rfl ?_
            refine TrL.op (ok_assign rfl (fun _ => rfl)) rfl rfl ?_
            refine TrL.fin ?_
            exact End.lp ((r + 1, it (invL o.2) (r + 1) k)) ⟨by omega, rfl, by rw [← hdn, hfu, dn_go hnp hin]⟩ (show o.1.length - (r + 1) < o.1.length - r by omega) (Ent.mk (.i rfl (by rfl) <| .i rfl (by first | rfl | omega | (simp; done) | (simp; omega) | assumption) <| .k rfl rfl <| .k rfl rfl <| .k rfl rfl <| .k rfl rfl <| .k rfl rfl <| .k rfl rfl <| .nil) (.k rfl <| .k rfl <| .nil) rfl)
        · intro h9
          have hat0 := dn_exit hdn hr (fun hh => by have h2 := hh.2; simp [hh.1] at h9; cases m <;> simp_all)
          refine Tr.exit ?_
          refine Exs.thn ?_
          refine Exs.thn ?_
          refine Exs.here ?_
          exact End.cut ((r, it (invL o.2) r k)) hat0 (Ent.mk (.i rfl (by first | rfl | omega | (simp; done) | (simp; omega) | assumption) <| .i rfl (by first | rfl | omega | (simp; done) | (simp; omega) | assumption) <| .k rfl rfl <| .k rfl rfl <| .k rfl rfl <| .k rfl rfl <| .k rfl rfl <| .k rfl rfl <| .nil) (.k rfl <| .k rfl <| .nil) rfl)
      · rintro ⟨r, _⟩ rfl
        refine End.norm (S' := [⟨9, true, _, _⟩, ⟨10, true, _, _⟩, ⟨1, true, _, _⟩, ⟨2, true, _, _⟩, ⟨5, true, _, _⟩, ⟨6, true, _, _⟩, ⟨7, true, _, _⟩, ⟨8, true, _, _⟩]) (M' := [⟨2, _, _⟩, ⟨6, _, _⟩]) rfl rfl ?_
        have hat := atR_sq (m := m) v hks
        have hsr := sR_rows (m := m) v hks
        refine End.nxt ?_
        refine Tr.seq ?_
        refine Tr.draw 8 mixed (by kernel_rfl) ?_
        refine RunD.op (ok_ldBS rfl (fun _ => rfl)) rfl rfl ?_
        refine RunD.op (ok_fldO rfl (fun _ => rfl)) rfl rfl ?_
        refine RunD.op (ok_ldB rfl (fun _ => rfl) rfl) rfl rfl ?_
        refine RunD.op (ok_move rfl (fun _ => rfl)) rfl rfl ?_
        refine RunD.op (ok_call (fun hp => ct_rCycle _ _ _ v.pR hat (by omega)) (.a rfl (fun _ => rfl) <| .a rfl (fun _ => rfl) <| .nil)) rfl rfl ?_
        refine RunD.op (ok_move rfl (fun _ => rfl)) rfl rfl ?_
        refine RunD.op (ok_call (fun hp => ct_rBand _ _ _ v hat) (.s rfl (fun _ => rfl) rfl <| .a rfl (fun _ => rfl) <| .a rfl (fun _ => rfl) <| .nil)) rfl rfl ?_
        refine RunD.new (ok_alloc 11) rfl rfl rfl rfl ?_
        refine RunD.z ?_
        refine TrL.stB rfl rfl rfl rfl ?_
        refine TrL.fin ?_
        refine End.nxt ?_
        refine Tr.seq ?_
        refine Tr.rg ?_
        refine TrL.op (ok_ldBS rfl (fun _ => rfl)) rfl rfl ?_
        refine TrL.op (ok_call (fun hp => ct_rLeast _ hsr.1 hsr.2.2 hsr.2.1) (.s rfl (fun _ => rfl) rfl <| .nil)) rfl rfl ?_
        refine TrL.op (ok_move rfl (fun _ => rfl)) rfl rfl ?_
        refine TrL.op (ok_eql rfl (fun _ => rfl) rfl (fun _ => rfl)) rfl rfl ?_
        refine TrL.fin ?_
        refine End.nxt ?_
        refine Tr.cnd rfl ?_ ?_
        · intro h14
          replace h14 := of_decide_eq_true h14
          have h14 : keyB (sR o m k) = (k : Int) := h14
          refine Tr.rg ?_
          refine TrL.op (ok_move rfl (fun _ => rfl)) rfl rfl ?_
          refine TrL.op (ok_ldBS rfl (fun _ => rfl)) rfl rfl ?_
          refine TrL.new (ok_bsl eBand 65 (fun hp => .cons rfl <| .nil) rfl rfl rfl rfl) rfl rfl rfl rfl ?_
          refine TrL.app rfl rfl rfl rfl rfl rfl rfl rfl (by first | omega | (simp only [List.length_cons, List.length_nil]; omega)) (by first | omega | (simp only [List.length_cons, List.length_nil]; omega)) ?_
          refine TrL.norm (S' := [⟨_, _, _, _⟩, ⟨_, _, _, _⟩, ⟨_, _, _, _⟩, ⟨_, _, _, _⟩, ⟨_, _, _, _⟩, ⟨_, _, _, _⟩, ⟨_, _, _, _⟩, ⟨_, _, _, _⟩, ⟨_, _, _, _⟩, ⟨_, _, _, _⟩, ⟨_, _, _, _⟩, ⟨_, _, _, _⟩, ⟨_, _, _, _⟩, ⟨_, _, _, _⟩, ⟨_, _, _, _⟩, ⟨_, _, _, _⟩, ⟨_, _, _, _⟩, ⟨_, _, _, _⟩, ⟨_, _, _, _⟩, ⟨_, _, _, _⟩, ⟨_, _, _, _⟩, ⟨_, _, _, _⟩, ⟨_, _, _, _⟩, ⟨_, _, _, _⟩]) rfl rfl ?_
          refine TrL.op (ok_assign rfl (fun _ => rfl)) rfl rfl ?_
          refine TrL.fin ?_
          refine End.blk ?_
          refine End.nxt ?_
          refine Tr.rg ?_
          refine TrL.op (ok_move rfl (fun _ => rfl)) rfl rfl ?_
          refine TrL.op (ok_add rfl (fun _ => rfl) rfl (fun _ => rfl) (fun _ => by omega)) rfl rfl ?_
          refine TrL.op (ok_assign rfl (fun _ => rfl)) rfl rfl ?_
          refine TrL.fin ?_
          exact End.lp (k + 1) (by first | rfl | omega | (simp; done) | (simp; omega) | assumption) (by omega) (Ent.mk (.o rfl (by rw [refL_yes h14, List.length_append]; rfl) rfl <| .i rfl (by first | rfl | omega | (simp; done) | (simp; omega) | assumption) <| .k rfl rfl <| .k rfl rfl <| .k rfl rfl <| .nil) (.a (by rw [refL_yes h14]; rfl) (by rw [refL_yes h14, List.length_append]; rfl) <| .k rfl <| .nil) rfl)
        · intro h14
          replace h14 := of_decide_eq_false h14
          have h14 : keyB (sR o m k) ≠ (k : Int) := h14
          refine Tr.skip ?_
          refine End.blk ?_
          refine End.nxt ?_
          refine Tr.rg ?_
          refine TrL.op (ok_move rfl (fun _ => rfl)) rfl rfl ?_
          refine TrL.op (ok_add rfl (fun _ => rfl) rfl (fun _ => rfl) (fun _ => by omega)) rfl rfl ?_
          refine TrL.op (ok_assign rfl (fun _ => rfl)) rfl rfl ?_
          refine TrL.fin ?_
          exact End.lp (k + 1) (by first | rfl | omega | (simp; done) | (simp; omega) | assumption) (by omega) (Ent.mk (.o rfl (by rw [refL_no h14]) rfl <| .i rfl (by first | rfl | omega | (simp; done) | (simp; omega) | assumption) <| .k rfl rfl <| .k rfl rfl <| .k rfl rfl <| .nil) (.a (by rw [refL_no h14]) (by rw [refL_no h14]) <| .k rfl <| .nil) rfl)
    · intro h4
      replace h4 := Int.not_lt.1 (of_decide_eq_false h4)
      refine Tr.exit ?_
      refine Exs.thn ?_
      refine Exs.thn ?_
      refine Exs.here ?_
      exact End.cut (k) (by omega) (Ent.mk (.o rfl (by first | rfl | omega | (simp; done) | (simp; omega) | assumption) rfl <| .i rfl (by first | rfl | omega | (simp; done) | (simp; omega) | assumption) <| .k rfl rfl <| .k rfl rfl <| .k rfl rfl <| .nil) (.a (by first | rfl | omega | (simp; done) | (simp; omega) | assumption) (by first | rfl | omega | (simp; done) | (simp; omega) | assumption) <| .k rfl <| .nil) rfl)
  · rintro _ rfl
    refine End.norm (S' := [⟨6, true, _, _⟩, ⟨7, true, _, _⟩, ⟨1, true, _, _⟩, ⟨2, true, _, _⟩, ⟨5, true, _, _⟩]) (M' := [⟨6, _, _⟩, ⟨2, _, _⟩]) rfl rfl ?_
    have hrl := refL_len (o := o) (m := m) (k := o.1.length)
    refine End.nxt ?_
    refine Tr.seq ?_
    refine Tr.rg ?_
    refine TrL.op (ok_move rfl (fun _ => rfl)) rfl rfl ?_
    refine TrL.op (ok_assign rfl (fun _ => rfl)) rfl rfl ?_
    refine TrL.fin ?_
    refine End.nxt ?_
    refine Tr.frz 6 [4] ⟨rfl, trivial⟩ (by simp only [lenMax]; omega) rfl ?_
    refine Tr.ret ?_
    exact Rts.res1 (fn := Tryz.f20) rfl (.r rfl (by rfl) <| .nil)

set_option maxRecDepth 100000 in
theorem ct_bands (a : List BandT) : Ct Tryz.prog 19 [kRd (eL eBand) a, kRd (eL eBand) a] (kB true) := by
  refine Ct.mk Tryz.func19 rfl Tryz.ntmps19 rfl (fun w J => ?_)
  refine Tr.fact (s := 0) rfl (fun _ _ h => lenB h) (fun hb => ?_)
  refine Tr.seq ?_
  refine Tr.rg ?_
  refine TrL.op (ok_assign rfl (fun _ => rfl)) rfl rfl ?_
  refine TrL.fin ?_
  refine End.nxt ?_
  refine Tr.seq ?_
  refine Tr.seq ?_
  refine Tr.rg ?_
  refine TrL.op (ok_move rfl (fun _ => rfl)) rfl rfl ?_
  refine TrL.op (ok_lenJ rfl (fun _ => rfl)) rfl rfl ?_
  refine TrL.op (ok_move rfl (fun _ => rfl)) rfl rfl ?_
  refine TrL.op (ok_lenJ rfl (fun _ => rfl)) rfl rfl ?_
  refine TrL.op (ok_neq rfl (fun _ => rfl) rfl (fun _ => rfl)) rfl rfl ?_
  refine TrL.fin ?_
  refine End.nxt ?_
  refine Tr.cnd rfl ?_ ?_
  · intro h1
    simp at h1
  · intro h1
    refine Tr.skip ?_
    refine End.nxt ?_
    refine Tr.seq ?_
    refine Tr.seq ?_
    refine Tr.rg ?_
    refine TrL.op (ok_assign rfl (fun _ => rfl)) rfl rfl ?_
    refine TrL.fin ?_
    refine End.nxt ?_
    refine Tr.for1 (σ := Nat) [⟨0, true, _, _⟩, ⟨1, true, _, _⟩] [] (fun k => [⟨5, true, [], kI (k : Int)⟩]) (fun k => []) (fun k => k ≤ a.length) (fun k => k = a.length) (fun k => a.length - k) (0) (Nat.zero_le _) (Ent.mk (.i rfl (by first | rfl | omega | (simp; done) | (simp; omega) | assumption) <| .k rfl rfl <| .k rfl rfl <| .nil) (.nil) rfl) ?_ ?_
    · intro k hR0
      refine Tr.norm (S' := [⟨5, true, _, _⟩, ⟨0, true, _, _⟩, ⟨1, true, _, _⟩]) (M' := []) rfl rfl ?_
      refine Tr.seq ?_
      refine Tr.seq ?_
      refine Tr.rg ?_
      refine TrL.op (ok_move rfl (fun _ => rfl)) rfl rfl ?_
      refine TrL.op (ok_move rfl (fun _ => rfl)) rfl rfl ?_
      refine TrL.op (ok_lenJ rfl (fun _ => rfl)) rfl rfl ?_
      refine TrL.op (ok_lss rfl (fun _ => rfl) rfl (fun _ => rfl)) rfl rfl ?_
      refine TrL.fin ?_
      refine End.nxt ?_
      refine Tr.cnd rfl ?_ ?_
      · intro h4
        replace h4 := of_decide_eq_true h4
        refine Tr.skip ?_
        refine End.nxt ?_
        refine Tr.seq ?_
        refine Tr.blk ?_
        refine Tr.seq ?_
        refine Tr.draw 35 mixed (by kernel_rfl) ?_
        refine RunD.op (ok_move rfl (fun _ => rfl)) rfl rfl ?_
        refine RunD.op (ok_move rfl (fun _ => rfl)) rfl rfl ?_
        first | refine RunD.op (ok_idxN rfl (fun _ => rfl) rfl (fun _ => rfl) rfl (fun _ => by omega)) rfl rfl ?_ | refine RunD.op (ok_idxP rfl (fun _ => rfl) rfl (fun _ => rfl) rfl (fun _ => by omega)) rfl rfl ?_
        refine RunD.op (ok_fldP rfl (fun _ => rfl) rfl) rfl rfl ?_
        refine RunD.op (ok_ldP rfl (fun _ => rfl) rfl) rfl rfl ?_
        refine RunD.op (ok_move rfl (fun _ => rfl)) rfl rfl ?_
        refine RunD.op (ok_move rfl (fun _ => rfl)) rfl rfl ?_
        first | refine RunD.op (ok_idxN rfl (fun _ => rfl) rfl (fun _ => rfl) rfl (fun _ => by omega)) rfl rfl ?_ | refine RunD.op (ok_idxP rfl (fun _ => rfl) rfl (fun _ => rfl) rfl (fun _ => by omega)) rfl rfl ?_
        refine RunD.op (ok_fldP rfl (fun _ => rfl) rfl) rfl rfl ?_
        refine RunD.op (ok_ldP rfl (fun _ => rfl) rfl) rfl rfl ?_
        refine RunD.op (ok_neq rfl (fun _ => rfl) rfl (fun _ => rfl)) rfl rfl ?_
        refine RunD.op (ok_move rfl (fun _ => rfl)) rfl rfl ?_
        refine RunD.gd rfl rfl rfl (ok_move rfl (fun _ => rfl)) rfl rfl ?_
        refine RunD.gd rfl rfl rfl (ok_move rfl (fun _ => rfl)) rfl rfl ?_
        first | refine RunD.gd rfl rfl rfl (ok_idxN rfl id rfl id rfl (fun hp => by simp at hp; omega)) rfl rfl ?_ | refine RunD.gd rfl rfl rfl (ok_idxP rfl id rfl id rfl (fun hp => by simp at hp; omega)) rfl rfl ?_
        refine RunD.gd rfl rfl rfl (ok_fldP rfl id rfl) rfl rfl ?_
        refine RunD.gd rfl rfl rfl (ok_ldP rfl id rfl) rfl rfl ?_
        refine RunD.gd rfl rfl rfl (ok_move rfl (fun _ => rfl)) rfl rfl ?_
        refine RunD.gd rfl rfl rfl (ok_move rfl (fun _ => rfl)) rfl rfl ?_
        first | refine RunD.gd rfl rfl rfl (ok_idxN rfl id rfl id rfl (fun hp => by simp at hp; omega)) rfl rfl ?_ | refine RunD.gd rfl rfl rfl (ok_idxP rfl id rfl id rfl (fun hp => by simp at hp; omega)) rfl rfl ?_
        refine RunD.gd rfl rfl rfl (ok_fldP rfl id rfl) rfl rfl ?_
        refine RunD.gd rfl rfl rfl (ok_ldP rfl id rfl) rfl rfl ?_
        refine RunD.gd rfl rfl rfl (ok_neq rfl id rfl id) rfl rfl ?_
        refine RunD.op (ok_or rfl (fun _ => rfl) rfl (fun hp h => gdF2 ((fun _ => rfl) hp) h)) rfl rfl ?_
        refine RunD.op (ok_move rfl (fun _ => rfl)) rfl rfl ?_
        refine RunD.gd rfl rfl rfl (ok_move rfl (fun _ => rfl)) rfl rfl ?_
        refine RunD.gd rfl rfl rfl (ok_move rfl (fun _ => rfl)) rfl rfl ?_
        first | refine RunD.gd rfl rfl rfl (ok_idxN rfl id rfl id rfl (fun hp => by simp at hp; omega)) rfl rfl ?_ | refine RunD.gd rfl rfl rfl (ok_idxP rfl id rfl id rfl (fun hp => by simp at hp; omega)) rfl rfl ?_
        refine RunD.gd rfl rfl rfl (ok_fldP rfl id rfl) rfl rfl ?_
        refine RunD.gd rfl rfl rfl (ok_ldP rfl id rfl) rfl rfl ?_
        refine RunD.gd rfl rfl rfl (ok_move rfl (fun _ => rfl)) rfl rfl ?_
        refine RunD.gd rfl rfl rfl (ok_move rfl (fun _ => rfl)) rfl rfl ?_
        first | refine RunD.gd rfl rfl rfl (ok_idxN rfl id rfl id rfl (fun hp => by simp at hp; omega)) rfl rfl ?_ | refine RunD.gd rfl rfl rfl (ok_idxP rfl id rfl id rfl (fun hp => by simp at hp; omega)) rfl rfl ?_
        refine RunD.gd rfl rfl rfl (ok_fldP rfl id rfl) rfl rfl ?_
        refine RunD.gd rfl rfl rfl (ok_ldP rfl id rfl) rfl rfl ?_
        refine RunD.z ?_
        refine TrL.gd rfl rfl rfl (ok_call (fun hp => ct_Lists _ _) (.a rfl id <| .a rfl id <| .nil)) rfl rfl ?_
        refine TrL.gd rfl rfl rfl (ok_not rfl id) rfl rfl ?_
        refine TrL.op (ok_or rfl (fun _ => rfl) rfl (fun hp h => gdF2 ((fun _ => rfl) hp) h)) rfl rfl ?_
        refine TrL.fin ?_
        refine End.nxt ?_
        refine Tr.cnd rfl ?_ ?_
        · intro h6
          simp at h6
        · intro h6
          refine Tr.skip ?_
          refine End.blk ?_
          refine End.nxt ?_
          refine Tr.rg ?_
          refine TrL.op (ok_move rfl (fun _ => rfl)) rfl rfl ?_
          refine TrL.op (ok_add rfl (fun _ => rfl) rfl (fun _ => rfl) (fun _ => by omega)) rfl rfl ?_
          refine TrL.op (ok_assign rfl (fun _ => rfl)) rfl rfl ?_
          refine TrL.fin ?_
          exact End.lp (k + 1) (by first | rfl | omega | (simp; done) | (simp; omega) | assumption) (by omega) (Ent.mk (.i rfl (by first | rfl | omega | (simp; done) | (simp; omega) | assumption) <| .k rfl rfl <| .k rfl rfl <| .nil) (.nil) rfl)
      · intro h4
        replace h4 := Int.not_lt.1 (of_decide_eq_false h4)
        refine Tr.exit ?_
        refine Exs.thn ?_
        refine Exs.thn ?_
        refine Exs.here ?_
        exact End.cut (k) (by omega) (Ent.mk (.i rfl (by first | rfl | omega | (simp; done) | (simp; omega) | assumption) <| .k rfl rfl <| .k rfl rfl <| .nil) (.nil) rfl)
    · rintro _ rfl
      refine End.norm (S' := [⟨5, true, _, _⟩, ⟨0, true, _, _⟩, ⟨1, true, _, _⟩]) (M' := []) rfl rfl ?_
      refine End.nxt ?_
      refine Tr.seq ?_
      refine Tr.rg ?_
      refine TrL.op (ok_assign rfl (fun _ => rfl)) rfl rfl ?_
      refine TrL.fin ?_
      refine End.nxt ?_
      refine Tr.ret ?_
      exact Rts.res1 (fn := Tryz.f19) rfl (.b rfl (by rfl) <| .nil)

theorem ct_rCyl2 (o : Ori) (m : Bool) (v : Valid o) : Ct Tryz.prog 20 [kRd eO o, kB m] (kRd (eL eBand) (cylL o m)) := by rw [← refL_cyl v]; exact ct_rCylinders o m v
set_option maxRecDepth 100000 in
set_option maxHeartbeats 2000000 in
theorem ct_OrigamiCylinders (o : Ori) (m : Bool) : Ct Tryz.prog 4 [kRd eO o, kB m] (kB true) := by
  refine Ct.mk Tryz.func4 rfl Tryz.ntmps4 rfl (fun w J => ?_)
  refine Tr.seq ?_
  refine Tr.rg ?_
  refine TrL.new (ok_box 2 rfl (fun _ => rfl) rfl) rfl rfl rfl rfl ?_
  refine TrL.op (ok_assign rfl (fun _ => rfl)) rfl rfl ?_
  refine TrL.fin ?_
  refine End.nxt ?_
  refine Tr.seq ?_
  refine Tr.seq ?_
  refine Tr.rg ?_
  refine TrL.op (ok_call (fun hp => ct_awake) (.nil)) rfl rfl ?_
  refine TrL.op (ok_not rfl (fun _ => rfl)) rfl rfl ?_
  refine TrL.fin ?_
  refine End.nxt ?_
  refine Tr.cnd rfl ?_ ?_
  · intro h1
    simp at h1
  · intro h1
    refine Tr.skip ?_
    refine End.nxt ?_
    refine Tr.seq ?_
    refine Tr.seq ?_
    refine Tr.rg ?_
    refine TrL.op (ok_ldBS rfl (fun _ => rfl)) rfl rfl ?_
    refine TrL.op (ok_call (fun hp => ct_Few _) (.s rfl (fun _ => rfl) rfl <| .nil)) rfl rfl ?_
    refine TrL.op (ok_not rfl (fun _ => rfl)) rfl rfl ?_
    refine TrL.fin ?_
    refine End.nxt ?_
    refine Tr.cnd rfl ?_ ?_
    · intro h3
      try simp only [decide_eq_false_iff_not, Bool.not_eq_true'] at h3
      refine Tr.seq ?_
      refine Tr.rg ?_
      refine TrL.op (ok_assign rfl (fun _ => rfl)) rfl rfl ?_
      refine TrL.fin ?_
      refine End.nxt ?_
      refine Tr.ret ?_
      refine Rts.thn ?_
      exact Rts.res1 (fn := Tryz.f4) rfl (.b rfl (by rfl) <| .nil)
    · intro h3
      try simp only [decide_eq_true_eq, Bool.not_eq_false'] at h3
      refine Tr.skip ?_
      refine End.nxt ?_
      refine Tr.seq ?_
      refine Tr.rg ?_
      refine TrL.op (ok_ldBS rfl (fun _ => rfl)) rfl rfl ?_
      refine TrL.op (ok_move rfl (fun _ => rfl)) rfl rfl ?_
      refine TrL.op (ok_call (fun hp => ct_oCylinders _ _) (.s rfl (fun _ => rfl) rfl <| .a rfl (fun _ => rfl) <| .nil)) rfl rfl ?_
      refine TrL.op (ok_move rfl (fun _ => rfl)) rfl rfl ?_
      refine TrL.op (ok_ext rfl (fun _ => rfl) rfl) rfl rfl ?_
      refine TrL.op (ok_ext rfl (fun _ => rfl) rfl) rfl rfl ?_
      refine TrL.op (ok_assign rfl (fun _ => rfl)) rfl rfl ?_
      refine TrL.op (ok_assign rfl (fun _ => rfl)) rfl rfl ?_
      refine TrL.fin ?_
      refine End.nxt ?_
      refine Tr.seq ?_
      refine Tr.seq ?_
      refine Tr.rg ?_
      refine TrL.op (ok_ldBS rfl (fun _ => rfl)) rfl rfl ?_
      refine TrL.op (ok_call (fun hp => ct_rCheck _) (.s rfl (fun _ => rfl) rfl <| .nil)) rfl rfl ?_
      refine TrL.op (ok_assign rfl (fun _ => rfl)) rfl rfl ?_
      refine TrL.fin ?_
      refine End.nxt ?_
      refine Tr.seq ?_
      refine Tr.rg ?_
      refine TrL.op (ok_move rfl (fun _ => rfl)) rfl rfl ?_
      refine TrL.op (ok_neq rfl (fun _ => rfl) rfl (fun _ => rfl)) rfl rfl ?_
      refine TrL.fin ?_
      refine End.nxt ?_
      refine Tr.cnd rfl ?_ ?_
      · intro h7
        replace h7 := of_decide_eq_true h7
        refine Tr.seq ?_
        refine Tr.rg ?_
        refine TrL.op (ok_move rfl (fun _ => rfl)) rfl rfl ?_
        refine TrL.op (ok_move rfl (fun _ => rfl)) rfl rfl ?_
        refine TrL.op (ok_eql rfl (fun _ => rfl) rfl (fun _ => rfl)) rfl rfl ?_
        refine TrL.op (ok_move rfl (fun _ => rfl)) rfl rfl ?_
        refine TrL.gd rfl rfl rfl (ok_move rfl (fun _ => rfl)) rfl rfl ?_
        refine TrL.gd rfl rfl rfl (ok_lenJ rfl id) rfl rfl ?_
        refine TrL.gd rfl rfl rfl (ok_eql rfl id rfl (fun _ => rfl)) rfl rfl ?_
        refine TrL.op (ok_and rfl (fun _ => rfl) rfl (fun hp h => gdT2 ((fun _ => rfl) hp) h)) rfl rfl ?_
        refine TrL.op (ok_assign rfl (fun _ => rfl)) rfl rfl ?_
        refine TrL.fin ?_
        refine End.nxt ?_
        refine Tr.ret ?_
        refine Rts.thn ?_
        exact Rts.res1 (fn := Tryz.f4) rfl (.b rfl (by simp [h7]) <| .nil)
      · intro h7
        replace h7 := Classical.not_not.1 (of_decide_eq_false h7)
        have v : Valid o := valid_of h7
        have hv0 := v.pos
        have hv1 := v.len
        have hv2 := v.le
        have hca := cyl_all v (m := m)
        have hcy : (cylL o m).length ≤ o.1.length := by rw [cylL_len]; exact (phE_pos v).2
        rw [if_pos h7] at *
        refine Tr.skip ?_
        refine End.nxt ?_
        refine Tr.seq ?_
        refine Tr.rg ?_
        refine TrL.op (ok_assign rfl (fun _ => rfl)) rfl rfl ?_
        refine TrL.fin ?_
        refine End.nxt ?_
        refine Tr.seq ?_
        refine Tr.seq ?_
        refine Tr.rg ?_
        refine TrL.op (ok_assign rfl (fun _ => rfl)) rfl rfl ?_
        refine TrL.fin ?_
        refine End.nxt ?_
        refine Tr.grow (s := 8) rfl rfl 8 rfl 3 eI rfl ?_
        refine Tr.for1 (σ := Nat) [⟨1, true, _, _⟩, ⟨2, true, _, _⟩, ⟨5, true, _, _⟩, ⟨6, true, _, _⟩] [⟨2, _, _⟩] (fun k => [⟨9, true, [], kI (k : Int)⟩, ⟨8, true, [8], kOsl 8 (allT (cylL o m) k 0).length⟩]) (fun k => [⟨8, [], cArr true 3 eI (allT (cylL o m) k 0) (allT (cylL o m) k 0).length⟩]) (fun k => k ≤ (cylL o m).length) (fun k => k = (cylL o m).length) (fun k => (cylL o m).length - k) (0) (Nat.zero_le _) (Ent.mk (.i rfl (by first | rfl | omega | (simp; done) | (simp; omega) | assumption) <| .o rfl (by rfl) rfl <| .k rfl rfl <| .k rfl rfl <| .k rfl rfl <| .k rfl rfl <| .nil) (.a (by rfl) (by first | rfl | omega | (simp; done) | (simp; omega) | assumption) <| .k rfl <| .nil) rfl) ?_ ?_
        · intro k hR0
          refine Tr.norm (S' := [⟨9, true, _, _⟩, ⟨8, true, _, _⟩, ⟨1, true, _, _⟩, ⟨2, true, _, _⟩, ⟨5, true, _, _⟩, ⟨6, true, _, _⟩]) (M' := [⟨8, _, _⟩, ⟨2, _, _⟩]) rfl rfl ?_
          refine Tr.seq ?_
          refine Tr.seq ?_
          refine Tr.rg ?_
          refine TrL.op (ok_move rfl (fun _ => rfl)) rfl rfl ?_
          refine TrL.op (ok_move rfl (fun _ => rfl)) rfl rfl ?_
          refine TrL.op (ok_lenJ rfl (fun _ => rfl)) rfl rfl ?_
          refine TrL.op (ok_lss rfl (fun _ => rfl) rfl (fun _ => rfl)) rfl rfl ?_
          refine TrL.fin ?_
          refine End.nxt ?_
          refine Tr.cnd rfl ?_ ?_
          · intro h11
            replace h11 := of_decide_eq_true h11
            have hrk := cyl_rows v (m := m) (i := k) (by omega)
            have hal := fun j => allT_len (L := cylL o m) (i := k) (k := j) (by omega)
            refine Tr.skip ?_
            refine End.nxt ?_
            refine Tr.seq ?_
            refine Tr.blk ?_
            refine Tr.seq ?_
            refine Tr.rg ?_
            refine TrL.op (ok_assign rfl (fun _ => rfl)) rfl rfl ?_
            refine TrL.fin ?_
            refine End.nxt ?_
            refine Tr.for1 (σ := Nat) [⟨1, true, _, _⟩, ⟨2, true, _, _⟩, ⟨5, true, _, _⟩, ⟨6, true, _, _⟩, ⟨9, true, _, _⟩] [⟨2, _, _⟩] (fun j => [⟨10, true, [], kI (j : Int)⟩, ⟨8, true, [8], kOsl 8 (allT (cylL o m) k j).length⟩]) (fun j => [⟨8, [], cArr true 3 eI (allT (cylL o m) k j) (allT (cylL o m) k j).length⟩]) (fun j => j ≤ (nth (cylL o m) k).2.2.length) (fun j => j = (nth (cylL o m) k).2.2.length) (fun j => (nth (cylL o m) k).2.2.length - j) (0) (Nat.zero_le _) (Ent.mk (.i rfl (by first | rfl | omega | (simp; done) | (simp; omega) | assumption) <| .o rfl (by first | rfl | omega | (simp; done) | (simp; omega) | assumption) rfl <| .k rfl rfl <| .k rfl rfl <| .k rfl rfl <| .k rfl rfl <| .k rfl rfl <| .nil) (.a (by first | rfl | omega | (simp; done) | (simp; omega) | assumption) (by first | rfl | omega | (simp; done) | (simp; omega) | assumption) <| .k rfl <| .nil) rfl) ?_ ?_
            · intro j hR1
              refine Tr.norm (S' := [⟨10, true, _, _⟩, ⟨8, true, _, _⟩, ⟨1, true, _, _⟩, ⟨2, true, _, _⟩, ⟨5, true, _, _⟩, ⟨6, true, _, _⟩, ⟨9, true, _, _⟩]) (M' := [⟨8, _, _⟩, ⟨2, _, _⟩]) rfl rfl ?_
              have halj := hal j
              have halj2 := fun (h : j < (nth (cylL o m) k).2.2.length) => (by have h2 := hal (j + 1); rw [allT_succ h, List.length_append] at h2; exact h2 : (allT (cylL o m) k j).length + (nth (nth (cylL o m) k).2.2 j).length ≤ (flatB (cylL o m)).length)
              refine Tr.seq ?_
              refine Tr.seq ?_
              refine Tr.rg ?_
              refine TrL.op (ok_move rfl (fun _ => rfl)) rfl rfl ?_
              refine TrL.op (ok_move rfl (fun _ => rfl)) rfl rfl ?_
              refine TrL.op (ok_move rfl (fun _ => rfl)) rfl rfl ?_
              first | refine TrL.op (ok_idxN rfl (fun _ => rfl) rfl (fun _ => rfl) rfl (fun _ => by omega)) rfl rfl ?_ | refine TrL.op (ok_idxP rfl (fun _ => rfl) rfl (fun _ => rfl) rfl (fun _ => by omega)) rfl rfl ?_
              refine TrL.op (ok_fldP rfl (fun _ => rfl) rfl) rfl rfl ?_
              refine TrL.op (ok_ldP rfl (fun _ => rfl) rfl) rfl rfl ?_
              refine TrL.op (ok_lenJ rfl (fun _ => rfl)) rfl rfl ?_
              refine TrL.op (ok_lss rfl (fun _ => rfl) rfl (fun _ => rfl)) rfl rfl ?_
              refine TrL.fin ?_
              refine End.nxt ?_
              refine Tr.cnd rfl ?_ ?_
              · intro h14
                replace h14 := of_decide_eq_true h14
                refine Tr.skip ?_
                refine End.nxt ?_
                refine Tr.seq ?_
                refine Tr.blk ?_
                refine Tr.rg ?_
                refine TrL.op (ok_move rfl (fun _ => rfl)) rfl rfl ?_
                refine TrL.op (ok_move rfl (fun _ => rfl)) rfl rfl ?_
                refine TrL.op (ok_move rfl (fun _ => rfl)) rfl rfl ?_
                first | refine TrL.op (ok_idxN rfl (fun _ => rfl) rfl (fun _ => rfl) rfl (fun _ => by omega)) rfl rfl ?_ | refine TrL.op (ok_idxP rfl (fun _ => rfl) rfl (fun _ => rfl) rfl (fun _ => by omega)) rfl rfl ?_
                refine TrL.op (ok_fldP rfl (fun _ => rfl) rfl) rfl rfl ?_
                refine TrL.op (ok_ldP rfl (fun _ => rfl) rfl) rfl rfl ?_
                refine TrL.op (ok_move rfl (fun _ => rfl)) rfl rfl ?_
                first | refine TrL.op (ok_idxN rfl (fun _ => rfl) rfl (fun _ => rfl) rfl (fun _ => by omega)) rfl rfl ?_ | refine TrL.op (ok_idxP rfl (fun _ => rfl) rfl (fun _ => rfl) rfl (fun _ => by omega)) rfl rfl ?_
                refine TrL.op (ok_ldP rfl (fun _ => rfl) rfl) rfl rfl ?_
                have halj3 := halj2 (by omega)
                refine TrL.app rfl rfl rfl rfl rfl rfl rfl rfl (by first | omega | (simp only [List.length_cons, List.length_nil]; omega)) (by first | omega | (simp only [List.length_cons, List.length_nil]; omega)) ?_
                refine TrL.norm (S' := [⟨_, _, _, _⟩, ⟨_, _, _, _⟩, ⟨_, _, _, _⟩, ⟨_, _, _, _⟩, ⟨_, _, _, _⟩, ⟨_, _, _, _⟩, ⟨_, _, _, _⟩, ⟨_, _, _, _⟩, ⟨_, _, _, _⟩, ⟨_, _, _, _⟩, ⟨_, _, _, _⟩, ⟨_, _, _, _⟩, ⟨_, _, _, _⟩, ⟨_, _, _, _⟩, ⟨_, _, _, _⟩, ⟨_, _, _, _⟩, ⟨_, _, _, _⟩, ⟨_, _, _, _⟩, ⟨_, _, _, _⟩, ⟨_, _, _, _⟩, ⟨_, _, _, _⟩, ⟨_, _, _, _⟩, ⟨_, _, _, _⟩, ⟨_, _, _, _⟩, ⟨_, _, _, _⟩]) rfl rfl ?_
                refine TrL.op (ok_assign rfl (fun _ => rfl)) rfl rfl ?_
                refine TrL.fin ?_
                refine End.blk ?_
                refine End.nxt ?_
                refine Tr.rg ?_
                refine TrL.op (ok_move rfl (fun _ => rfl)) rfl rfl ?_
                refine TrL.op (ok_add rfl (fun _ => rfl) rfl (fun _ => rfl) (fun _ => by omega)) rfl rfl ?_
                refine TrL.op (ok_assign rfl (fun _ => rfl)) rfl rfl ?_
                refine TrL.fin ?_
                exact End.lp (j + 1) (by first | rfl | omega | (simp; done) | (simp; omega) | assumption) (by omega) (Ent.mk (.i rfl (by first | rfl | omega | (simp; done) | (simp; omega) | assumption) <| .o rfl (by rw [allT_succ (by omega), List.length_append]) rfl <| .k rfl rfl <| .k rfl rfl <| .k rfl rfl <| .k rfl rfl <| .k rfl rfl <| .nil) (.a (by rw [allT_succ (by omega)]) (by rw [allT_succ (by omega), List.length_append]) <| .k rfl <| .nil) rfl)
              · intro h14
                replace h14 := Int.not_lt.1 (of_decide_eq_false h14)
                refine Tr.exit ?_
                refine Exs.thn ?_
                refine Exs.thn ?_
                refine Exs.here ?_
                exact End.cut (j) (by omega) (Ent.mk (.i rfl (by first | rfl | omega | (simp; done) | (simp; omega) | assumption) <| .o rfl (by first | rfl | omega | (simp; done) | (simp; omega) | assumption) rfl <| .k rfl rfl <| .k rfl rfl <| .k rfl rfl <| .k rfl rfl <| .k rfl rfl <| .nil) (.a (by first | rfl | omega | (simp; done) | (simp; omega) | assumption) (by first | rfl | omega | (simp; done) | (simp; omega) | assumption) <| .k rfl <| .nil) rfl)
            · rintro _ rfl
              refine End.norm (S' := [⟨10, true, _, _⟩, ⟨8, true, _, _⟩, ⟨1, true, _, _⟩, ⟨2, true, _, _⟩, ⟨5, true, _, _⟩, ⟨6, true, _, _⟩, ⟨9, true, _, _⟩]) (M' := [⟨8, _, _⟩, ⟨2, _, _⟩]) rfl rfl ?_
              refine End.blk ?_
              refine End.nxt ?_
              refine Tr.rg ?_
              refine TrL.op (ok_move rfl (fun _ => rfl)) rfl rfl ?_
              refine TrL.op (ok_add rfl (fun _ => rfl) rfl (fun _ => rfl) (fun _ => by omega)) rfl rfl ?_
              refine TrL.op (ok_assign rfl (fun _ => rfl)) rfl rfl ?_
              refine TrL.fin ?_
              exact End.lp (k + 1) (by first | rfl | omega | (simp; done) | (simp; omega) | assumption) (by omega) (Ent.mk (.i rfl (by first | rfl | omega | (simp; done) | (simp; omega) | assumption) <| .o rfl (by rw [allT_next (by omega)]) rfl <| .k rfl rfl <| .k rfl rfl <| .k rfl rfl <| .k rfl rfl <| .nil) (.a (by rw [allT_next (by omega)]) (by rw [allT_next (by omega)]) <| .k rfl <| .nil) rfl)
          · intro h11
            replace h11 := Int.not_lt.1 (of_decide_eq_false h11)
            refine Tr.exit ?_
            refine Exs.thn ?_
            refine Exs.thn ?_
            refine Exs.here ?_
            exact End.cut (k) (by omega) (Ent.mk (.i rfl (by first | rfl | omega | (simp; done) | (simp; omega) | assumption) <| .o rfl (by first | rfl | omega | (simp; done) | (simp; omega) | assumption) rfl <| .k rfl rfl <| .k rfl rfl <| .k rfl rfl <| .k rfl rfl <| .nil) (.a (by first | rfl | omega | (simp; done) | (simp; omega) | assumption) (by first | rfl | omega | (simp; done) | (simp; omega) | assumption) <| .k rfl <| .nil) rfl)
        · rintro _ rfl
          refine End.norm (S' := [⟨9, true, _, _⟩, ⟨8, true, _, _⟩, ⟨1, true, _, _⟩, ⟨2, true, _, _⟩, ⟨5, true, _, _⟩, ⟨6, true, _, _⟩]) (M' := [⟨8, _, _⟩, ⟨2, _, _⟩]) rfl rfl ?_
          have hat : allT (cylL o m) (cylL o m).length 0 = flatB (cylL o m) := by rw [allT_zero, List.take_length]
          refine End.nxt ?_
          refine Tr.seq ?_
          refine Tr.frz 8 [8] ⟨rfl, trivial⟩ (by rw [hat]; simp only [lenMax]; omega) rfl ?_
          refine Tr.norm (S' := [⟨_, _, _, _⟩, ⟨_, _, _, _⟩, ⟨_, _, _, _⟩, ⟨_, _, _, _⟩, ⟨_, _, _, _⟩, ⟨_, _, _, _⟩, ⟨_, _, _, _⟩]) (M' := [⟨_, _, _⟩]) rfl rfl ?_
          refine Tr.rg ?_
          refine TrL.op (ok_move rfl (fun _ => rfl)) rfl rfl ?_
          refine TrL.op (ok_eql rfl (fun _ => rfl) rfl (fun _ => rfl)) rfl rfl ?_
          refine TrL.op (ok_move rfl (fun _ => rfl)) rfl rfl ?_
          refine TrL.gd rfl rfl rfl (ok_move rfl (fun _ => rfl)) rfl rfl ?_
          refine TrL.gd rfl rfl rfl (ok_ldBS rfl (fun _ => rfl)) rfl rfl ?_
          refine TrL.gd rfl rfl rfl (ok_move rfl (fun _ => rfl)) rfl rfl ?_
          refine TrL.gd rfl rfl rfl (ok_call (fun hp => ct_rCyl2 _ _ v) (.s rfl id rfl <| .a rfl id <| .nil)) rfl rfl ?_
          refine TrL.gd rfl rfl rfl (ok_call (fun hp => ct_bands _) (.a rfl id <| .a rfl id <| .nil)) rfl rfl ?_
          refine TrL.op (ok_and rfl (fun _ => rfl) rfl (fun hp h => gdT2 ((fun _ => rfl) hp) h)) rfl rfl ?_
          refine TrL.op (ok_move rfl (fun _ => rfl)) rfl rfl ?_
          refine TrL.gd rfl rfl rfl (ok_move rfl (fun _ => rfl)) rfl rfl ?_
          refine TrL.gd rfl rfl rfl (ok_lenJ rfl id) rfl rfl ?_
          refine TrL.gd rfl rfl rfl (ok_ldBS rfl (fun _ => rfl)) rfl rfl ?_
          refine TrL.gd rfl rfl rfl (ok_call (fun hp => ct_rSize _) (.s rfl id rfl <| .nil)) rfl rfl ?_
          refine TrL.gd rfl rfl rfl (ok_eql rfl id rfl id) rfl rfl ?_
          refine TrL.op (ok_and rfl (fun _ => rfl) rfl (fun hp h => gdT2 ((fun _ => rfl) hp) h)) rfl rfl ?_
          refine TrL.op (ok_move rfl (fun _ => rfl)) rfl rfl ?_
          refine TrL.gd rfl rfl rfl (ok_move rfl (fun _ => rfl)) rfl rfl ?_
          refine TrL.gd rfl rfl rfl (ok_ldBS rfl (fun _ => rfl)) rfl rfl ?_
          refine TrL.gd rfl rfl rfl (ok_call (fun hp => ct_rSize _) (.s rfl id rfl <| .nil)) rfl rfl ?_
          refine TrL.gd rfl rfl rfl (ok_call (fun hp => ct_rCheckList _ _) (.a rfl id <| .a rfl id <| .nil)) rfl rfl ?_
          refine TrL.gd rfl rfl rfl (ok_eql rfl id rfl (fun _ => rfl)) rfl rfl ?_
          refine TrL.op (ok_and rfl (fun _ => rfl) rfl (fun hp h => gdT2 ((fun _ => rfl) hp) h)) rfl rfl ?_
          refine TrL.op (ok_assign rfl (fun _ => rfl)) rfl rfl ?_
          refine TrL.fin ?_
          refine End.nxt ?_
          refine Tr.ret ?_
          exact Rts.res1 (fn := Tryz.f4) rfl (.b rfl (by rw [hat]; simp [hca.1, hca.2, h7]) <| .nil)

end Go.Fl

/- THE LAW OrigamiCylinders HOLDS FOR EVERY INPUT: whatever the arguments, the call returns true, and each argument reads behind it as before. Conditions: those of the given row (its listed variables as the program lays them). -/
namespace Go.Proofs.YtpbcelfhhpafeaaGreat
open Go Go.Fl Go.RowKit Go.ChangeShapes Go.WideShapes Go.ChangeAt

theorem rdt22 : RdT Tryz.prog 22 (eL eI) (ListP (okI .i64)) := RdT.slice RdT.int rfl rfl rfl
theorem rdt24t : RdT Tryz.prog 24 (eP (eL eI) (eP (eL eI) eU)) (AndP (ListP (okI .i64)) (AndP (ListP (okI .i64)) UnitP)) := by
  refine RdT.struct (l := [_, _]) Tryz.underlying24 rfl (by kernel_rfl) ?_
  refine FldT.cons rdt22 (by rfl) (by rfl) (by rfl) ?_
  refine FldT.cons rdt22 (by rfl) (by rfl) (by rfl) ?_
  exact FldT.nil
theorem rdt24 : RdT Tryz.prog 24 eO (fun o : Ori => ListP (okI .i64) o.1 ∧ ListP (okI .i64) o.2) := RdT.conv rdt24t (fun x => ((x.1, x.2.1) : Ori)) (fun _ _ _ h => h) (fun _ h => ⟨h.1, h.2.1⟩)
theorem own : ownKnob Tryz.prog.godebug = none := by kernel_rfl
set_option maxRecDepth 100000 in
theorem lifted0 (os : Os) (started : os.Started) (H : Type) (enc : TypeId × Value → H) :
    ReturnsInHanded {} Tryz.checked os 4 .any (fun w args => (Rows.origamiCylindersSpec.pre enc Tryz.prog Tryz.f4 [] false w args ∧ True) ∧ sizedMet enc Tryz.prog Tryz.f4 (OpenSpec.ofChange Rows.origamiCylindersSpec) false w args)
      (Rows.origamiCylindersSpec.post enc Tryz.prog Tryz.f4 false true false false) := by
  refine returnsInHanded_of_change_and (C := Tryz.checked) (X := fun _ _ => True) (fun _ _ _ _ h => h) own started (by kernel_rfl) Tryz.func4
    (ChangeSpec.witness_shaped (enc := enc) (C := Tryz.checked) (os := os) (X := fun _ _ => True) false (World.laidAll Tryz.prog os Rows.origamiCylindersRow.laid) #[.agg #[.slice none 0 0, .slice none 0 0], .bool false] 8 (World.laidAll_os _ _ _)
      (World.shaped_of_ZipB (by kernel_rfl) (by kernel_rfl)) (by kernel_rfl) (by kernel_rfl) (by kernel_rfl)
      trivial) ?_
  intro W base args ds gs before hval0 hW _ hwt hL _
  have hval : ∀ (j : Nat) t v, Tryz.f4.params[j]? = some t → args[j]? = some v → Value.okWide Tryz.prog W .any base t v := hval0
  have hpost : ∀ W', Fl.Below W.heap.size W W' → Rows.origamiCylindersSpec.post enc Tryz.prog Tryz.f4 false true false false W args (.bool true) W' := fun W' hb => law_post (by kernel_rfl) (by kernel_rfl) (by kernel_rfl) hW (by kernel_rfl) rfl (fun hg => by
    subst hg
    obtain ⟨p, q, hA0, _⟩ := hW
    have hA : DataW.TrodAll enc Tryz.prog W 0 (fun _ => true) true Tryz.f4.params.toList args.toList ds p := hA0
    rw [Tryz.params4] at hA
    obtain ⟨v0, v1, d0, d1, _, _, rfl, rfl, _, _, _⟩ := trodAll_two hA
    rfl) rfl Tryz.underlying4 hb
  have hW0 := hW
  obtain ⟨p, q, hA0, hV, rfl, _, _⟩ := hW0
  have hA : DataW.TrodAll enc Tryz.prog W 0 (fun _ => true) true Tryz.f4.params.toList args.toList ds p := hA0
  rw [Tryz.params4] at hA hval hwt
  obtain ⟨rfl, rfl⟩ := trodVars_none hV
  obtain ⟨v0, v1, d0, d1, _, _, rfl, rfl, _, h0, h1⟩ := trodAll_two hA
  have hwt' : (DataW.weightsEach Tryz.prog [24, 4] [d0, d1]).all (· ≤ reachBytes) = true := hwt
  have w0 := weights_cons hwt'
  have w1 := weights_cons w0.2
  obtain ⟨x0, k0, r0⟩ := RdT.val (by exact rdt24 : RdT Tryz.prog 24 eO (fun o : Ori => ListP (okI .i64) o.1 ∧ ListP (okI .i64) o.2)) rfl (hval 0 24 v0 rfl rfl) h0 w0.1
  obtain ⟨x1, k1, r1⟩ := RdT.val (by exact RdT.bool : RdT Tryz.prog 4 eBool BoolP) rfl (hval 1 4 v1 rfl rfl) h1 w1.1
  refine Ct.law (vs := #[v0, v1]) (ct_OrigamiCylinders x0 x1) ?_ fun W' hb => ⟨_, rfl, hpost W' hb⟩
  exact ⟨k0, (kB_rd k1), trivial⟩
theorem lifted (os : Os) (started : os.Started) (H : Type) (enc : TypeId × Value → H) :
    ReturnsInHanded {} Tryz.checked os 4 .any (fun w args => Rows.origamiCylindersSpec.pre enc Tryz.prog Tryz.f4 [] false w args ∧ sizedMet enc Tryz.prog Tryz.f4 (OpenSpec.ofChange Rows.origamiCylindersSpec) false w args)
      (Rows.origamiCylindersSpec.post enc Tryz.prog Tryz.f4 false true false false) := by
  have h := lifted0 os started H enc
  simp only [and_true] at h
  exact h
theorem holds : Rows.origamiCylindersRow.holds Tryz.pinned (OpenSpec.ofChange Rows.origamiCylindersSpec) :=
  OpenClaim.holds_of_wide 4 Tryz.f4 rfl rfl rfl rfl rfl rfl rfl ⟨rfl, rfl, rfl, rfl, rfl⟩ rfl rfl rfl rfl rfl (by kernel_rfl) Tryz.func4 (by kernel_rfl)
    (of_decide_eq_true (by kernel_rfl)) (by unfold Func.isWrapper; first | (rw [if_pos (by decide +kernel)]; kernel_rfl) | (rw [if_neg (by decide +kernel)]; exact ⟨rfl, rfl⟩))
    (fun os started H enc _ => lifted os started H enc)
theorem origamiCylinders_holds : Rows.OrigamiCylindersSaid := holds
end Go.Proofs.YtpbcelfhhpafeaaGreat
