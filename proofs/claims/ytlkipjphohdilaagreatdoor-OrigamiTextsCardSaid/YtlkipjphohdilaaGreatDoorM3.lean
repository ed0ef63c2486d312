/- Laws on walking typed knowledge through code, and contracts. -/
import Derived.Test.YtlkipjphohdilaaGreatDoorM2
import Derived.Laws.CopyRow
import Derived.Shelf.Sort.Plain
import Derived.Shelf.SlSortCmp.Whole1
import Derived.Sort.OwnSortedInts
import Derived.Ground.SlsfProg
import Derived.Test.YtlkipjphohdilaaGreatDoorProg
import Derived.Laws.StructEq
import Derived.OrdersHeld

/- A region that draws its order and changes a thing of the call's own by an operation that hands back a value ('copy'). -/
namespace Go.Fl
open Go Go.RowKit
def MutOk (P : Program) (c : Ctx) (S : Slots) (M : Conts) (o : Oper) (u : Nat) (ct' : Cont) (d : Nat) (v : Value) : Prop :=
  ∀ (a : Act) (g : Gh) (w : World), Ok c g w → ContsHold M g w → OpsHold S o a g → o.wp P a w (fun a' w' => a' = a.put (some d) v ∧ StDid u ct' g w w') (fun _ _ _ => False)
theorem look_sl : ∀ {rs : List Rec} {S : Slots} {d : Nat}, look (sl S rs) d = none → look S d = none ∧ ∀ r ∈ rs, r.d ≠ d
  | [], _, _, h => ⟨by simpa [sl] using h, fun _ h => by cases h⟩
  | r :: rs, S, d, h => by
    obtain ⟨h1, h2⟩ := look_sl (rs := rs) (S := r.se :: S) (d := d) (by simpa [sl] using h)
    simp only [look] at h1
    cases hb : Nat.beq r.se.s d with
    | true => rw [hb] at h1; cases h1
    | false =>
      rw [hb] at h1
      refine ⟨h1, fun x hx => ?_⟩
      rcases List.mem_cons.1 hx with rfl | hx
      · exact Nat.ne_of_beq_eq_false hb
      · exact h2 x hx
theorem Sat.putx {c : Ctx} {S : Slots} {M : Conts} {a : Act} {g : Gh} {w : World} (h : Sat c S M a g w) {d : Nat} {v : Value} (hl : look S d = none) (_ : d < c.n) : Sat c S M (a.put (some d) v) g w :=
  ⟨h.ok, fun t b k hk => by
    have : d ≠ t := fun e => by subst e; rw [hl] at hk; cases hk
    rw [getD_put_other this]; exact h.slots t b k hk, h.conts, h.dom, h.nodup, h.sdep, h.cdep, h.defers, by simp [Act.put, h.size]⟩
theorem Sat.slotD {c : Ctx} {S : Slots} {M : Conts} {a : Act} {g : Gh} {w : World} (h : Sat c S M a g w) {d : Nat} {v : Value} (hv : a.tmps.getD d undef = v) : Sat c (⟨d, true, [], kDet v⟩ :: S) M a g w :=
  ⟨h.ok, fun t b k hk => by
    simp only [look] at hk
    cases hb : Nat.beq d t with
    | true =>
      rw [hb] at hk
      simp only [cond_true, Option.some.injEq, Prod.mk.injEq] at hk
      obtain ⟨rfl, rfl⟩ := hk
      rw [← Nat.eq_of_beq_eq_true hb]
      exact ⟨fun _ => hv, fun hf => by cases hf⟩
    | false => rw [hb] at hk; exact h.slots t b k hk, h.conts, h.dom, h.nodup, fun e he => by
    rcases List.mem_cons.1 he with rfl | he
    · exact ⟨inferInstance, fun _ h => by cases h⟩
    · exact h.sdep e he, h.cdep, h.defers, h.size⟩
section
variable {P : Program} {c : Ctx} {Q : Exit → Act → World → Prop} {l : List Oper} {m : Nat} {S : Slots} {M Mx : Conts} {MI : Nat → Conts} {rs : List Rec} {a0 : Act} {g0 : Gh} {w1 : World}
def RunC (P : Program) (c : Ctx) (l : List Oper) (Q : Exit → Act → World → Prop) (u : Nat) (M MA : Conts) (q : Nat) : List Oper → Nat → Slots → Conts → Prop
  | [], _, _, _ => False
  | o :: rest, 0, S, Mc => ∃ ct' dep' Mc' d v, (o.dst = some d ∧ look S d = none ∧ d < c.n) ∧ o.guard = none ∧ MutOk P c S M o u ct' d v ∧ UpM Mc u ct' dep' Mc' ∧ CDep ct' dep' ∧ (∀ t ∈ dep', t ∈ tags M) ∧ TrL P c l.toArray (⟨d, true, [], kDet v⟩ :: S) Mc' rest Q
  | o :: rest, k + 1, S, Mc => ∃ r M0, (M0 = MA ∨ (M0 = M ∧ anc l q (q - (k + 1)) = true)) ∧ StOk P c l.toArray M0 S Mc o r ∧ RunC P c l Q u M MA q rest k (r.se :: S) (consM r.new Mc)
theorem RunC.recs {u q : Nat} {M0 MA : Conts} : ∀ {k : Nat} {rest : List Oper} {S : Slots} {M : Conts}, k ≤ q → RunC P c l Q u M0 MA q rest k S M →
    ∃ (rs : List Rec) (MI : Nat → Conts), rs.length = k ∧ k < rest.length ∧ (∀ i r o, rs[i]? = some r → rest[i]? = some o → StOk P c l.toArray (MI i) (sl S (rs.take i)) (cl M (rs.take i)) o r) ∧
      (∀ i, i < k → MI i = MA ∨ (MI i = M0 ∧ anc l q (q - k + i) = true)) ∧ (∀ i, k ≤ i → MI i = MA) ∧
      ∃ o ct' dep' Mc' d v, rest[k]? = some o ∧ (o.dst = some d ∧ look (sl S rs) d = none ∧ d < c.n) ∧ o.guard = none ∧ MutOk P c (sl S rs) M0 o u ct' d v ∧ UpM (cl M rs) u ct' dep' Mc' ∧ CDep ct' dep' ∧ (∀ t ∈ dep', t ∈ tags M0) ∧ TrL P c l.toArray (⟨d, true, [], kDet v⟩ :: sl S rs) Mc' (rest.drop (k + 1)) Q
  | k, [], S, M, _, h => by cases k <;> exact h.elim
  | 0, o :: rest, S, M, _, h => by
    obtain ⟨ct', dep', Mc', d, v, h1, h2, h3, h4, h5, h6, h7⟩ := h
    exact ⟨[], fun _ => MA, rfl, by simp, fun i r o h => by simp at h, fun i hi => by omega, fun _ _ => rfl, o, ct', dep', Mc', d, v, rfl, by simpa [sl] using h1, h2, by simpa [sl] using h3, by simpa [cl] using h4, h5, h6, by simpa [sl] using h7⟩
  | k + 1, o :: rest, S, M, hk, h => by
    obtain ⟨r, M1, hM1, h1, h2⟩ := h
    obtain ⟨rs, MI, k1, k2, k3, k4, k5, o', ct', dep', Mc', d, v, e1, e2, e3, e4, e5, e6, e7, e8⟩ := RunC.recs (by omega) h2
    refine ⟨r :: rs, fun i => match i with | 0 => M1 | i + 1 => MI i, by simp [k1], by simp; omega, fun i r' o' hr ho => ?_, fun i hi => ?_, fun i hi => ?_, o', ct', dep', Mc', d, v, by simpa using e1, by simpa [sl] using e2, e3, by simpa [sl] using e4, by simpa [cl] using e5, e6, e7, by simpa [sl] using e8⟩
    · cases i with
      | zero => simp at hr ho; subst hr ho; simpa [sl, cl] using h1
      | succ i => simpa [sl, cl] using k3 i r' o' (by simpa using hr) (by simpa using ho)
    · cases i with
      | zero => simpa using hM1
      | succ i =>
        have := k4 i (by omega)
        rw [show q - k + i = q - (k + 1) + (i + 1) by omega] at this
        exact this
    · cases i with
      | zero => omega
      | succ i => exact k5 i (by omega)
/-- **A REGION THAT DRAWS ITS ORDER AND STORES**: 'q' operations in whatever order, a store as soon as what it waits for is there; the others behind them all. -/
theorem Tr.drawC {id : Nat} (q u : Nat) {MA : Conts} [hA : UpM M u cAny [] MA] (hm : P.follows .mixedOrders = true) (chk : drawOk l (q + 1) = true) (h : RunC P c l Q u M MA q l q S M) : Tr P c S M (.region id l.toArray true) Q := by
  intro a g w hs0
  have hs := hs0.drew
  obtain ⟨rs, MI, hlen, hml, hst, hMI, hMI', os, ct', dep', Mc', d, v, hos, ⟨hod, hlk, hdn⟩, hog, hstore, hup, hcd, hdm, htail⟩ := RunC.recs (Nat.le_refl _) h
  have hd := DrawOk.of chk
  obtain ⟨hlS, hlr⟩ := look_sl hlk
  have hs2 : Sat c S M (a.put (some d) v) g w.drew := hs.putx hlS hdn
  have hpd : (a.put (some d) v).tmps.getD d undef = v := getD_put_same (by rw [hs.size]; exact hdn)
  have hAt : Fl.tags MA = tags M := hA.tags
  have hMt : ∀ i t, t ∈ tags (MI i) ↔ t ∈ tags M := fun i t => by
    by_cases hi : i < q
    · rcases hMI i hi with e | ⟨e, _⟩ <;> rw [e]; rw [hAt]
    · rw [hMI' i (by omega), hAt]
  let Mx : Conts := ⟨u, dep', ct'⟩ :: M.filter (fun e => !(e.t == u))
  have hx1 : ⟨u, dep', ct'⟩ ∈ Mx := List.mem_cons_self
  have hx2 : ∀ e ∈ M, e.t ≠ u → e ∈ Mx := fun e he hne => List.mem_cons_of_mem _ (List.mem_filter.2 ⟨he, by simpa using hne⟩)
  have hxt : ∀ t, t ∈ tags M → t ∈ tags Mx := fun t ht => by
    obtain ⟨e, he, rfl⟩ := List.mem_map.1 ht
    by_cases hu : e.t = u
    · exact List.mem_map.2 ⟨_, hx1, hu.symm⟩
    · exact List.mem_map.2 ⟨e, hx2 e he hu, rfl⟩
  have hxd : ContsDep Mx Mx := fun e he => by
    rcases List.mem_cons.1 he with rfl | he
    · exact ⟨hcd, fun t ht => hxt t (hdm t ht)⟩
    · have := (List.mem_filter.1 he).1
      exact ⟨(hs.cdep e this).1, fun t ht => hxt t ((hs.cdep e this).2 t ht)⟩
  have hMA : ∀ g w, ContsHold M g w → ContsHold MA g w := fun g w hc e he => by
    rcases hA.mem hs.nodup e he with rfl | ⟨he, _⟩
    · obtain ⟨b, hb⟩ := hc.tag hA.tag; exact ⟨b, hb, trivial⟩
    · exact hc e he
  have hxA : ∀ g w, ContsHold Mx g w → ContsHold MA g w := fun g w hc e he => by
    rcases hA.mem hs.nodup e he with rfl | ⟨he, hne⟩
    · obtain ⟨b, hb, _⟩ := hc _ hx1; exact ⟨b, hb, trivial⟩
    · exact hc e (hx2 e he hne)
  have hnews : News M rs := by
    have hin : ∀ (i : Nat) (r : Rec), rs[i]? = some r → ∃ o, StOk P c l.toArray (MI i) (sl S (rs.take i)) (cl M (rs.take i)) o r := fun i r hr =>
      ⟨_, hst i r _ hr (List.getElem?_eq_getElem (by have := (List.getElem?_eq_some_iff.1 hr).1; omega))⟩
    have hlt : ∀ (i j : Nat) (r r' : Rec) (e e' : CE), i < j → rs[i]? = some r → rs[j]? = some r' → r.new = some e → r'.new = some e' → e.t ≠ e'.t := fun i j r r' e e' hij hi hj he he' ht => by
      obtain ⟨o, st⟩ := hin j r' hj
      refine (st.new e' he').2.2 (List.mem_map.2 ⟨e, (cl_mem _).2 (.inr ⟨i, r, ?_, he⟩), ht⟩)
      rw [List.getElem?_take, if_pos hij]; exact hi
    refine ⟨fun i r e hr he ht => ?_, fun i j r r' e e' hi hj he he' ht => ?_⟩
    · obtain ⟨o, st⟩ := hin i r hr
      obtain ⟨x, hx, hxt⟩ := List.mem_map.1 ht
      exact (st.new e he).2.2 (List.mem_map.2 ⟨x, (cl_mem _).2 (.inl hx), hxt⟩)
    · rcases Nat.lt_trichotomy i j with hij | rfl | hij
      · exact absurd ht (hlt i j r r' e e' hij hi hj he he')
      · rfl
      · exact absurd ht.symm (hlt j i r' r e' e hij hj hi he' he)
  have hsz0 : (Array.replicate l.length false).size = l.length := by simp
  have hqM : rs[q]? = none := List.getElem?_eq_none (by omega)
  -- behind the store
  have main2 : ∀ (f : Nat) (listed : Array Bool) (a' : Act) (g' : Gh) (w' : World), unl listed ≤ f → Ld listed q → Inv2 l c M Mx rs (a.put (some d) v) g listed a' g' w' → wpAny P .any l.toArray Q f listed a' w' := by
    intro f
    induction f with
    | zero =>
      intro listed a' g' w' hf hq hI
      have hall : ∀ i, i < l.length → Ld listed i := fun i hi => unl_zero (Nat.le_zero.1 hf) (by rw [hI.sz]; exact hi)
      have hlq : l.length = q + 1 := by
        rcases Nat.lt_or_ge (q + 1) l.length with h' | h'
        · have := hI.low _ (hall (q + 1) h'); omega
        · omega
      refine wpAny_tail hd 0 l.length listed a' w' hI.sz (fun i => ⟨fun h => by have := h.lt; rw [hI.sz] at this; exact this, hall i⟩) (by omega) (Nat.le_refl _) (by omega) ?_
      have := htail a' g' w' ((hI.sat hst hMt (by omega) hs2 hup hcd hdm hx1 hx2 (fun i hi => hall i (by omega))).slotD ((hI.base d (fun i r _ hr => hlr r (List.mem_of_getElem? hr))).trans hpd))
      rw [hlq]
      exact this
    | succ f ih =>
      intro listed a' g' w' hf hq hI
      by_cases hall : ∀ i, i < q + 1 → Ld listed i
      · have hsat := (hI.sat hst hMt (by omega) hs2 hup hcd hdm hx1 hx2 (fun i hi => hall i (by omega))).slotD ((hI.base d (fun i r _ hr => hlr r (List.mem_of_getElem? hr))).trans hpd)
        exact wpAny_tail hd (f + 1) (q + 1) listed a' w' hI.sz (fun i => ⟨fun h => by have := hI.low i h; omega, hall i⟩) (Nat.le_refl _) (by omega) (by
          have : unl listed = l.length - (q + 1) := by
            have hsplit : ∀ k, k ≤ listed.size → (listed.toList.take k).countP (fun b => !b) = k - min k (q + 1) := by
              intro k
              induction k with
              | zero => simp
              | succ k ihk =>
                intro hk
                rw [List.take_succ_eq_append_getElem (by simp; omega), List.countP_append, ihk (by omega)]
                by_cases hkm : k < q + 1
                · have h1 := hall k hkm
                  unfold Ld at h1
                  rw [Array.getElem?_eq_getElem (by omega)] at h1
                  simp only [Option.some.injEq] at h1
                  simp [h1]; omega
                · have h1 : listed[k] = false := by
                    have h2 : ¬ Ld listed k := fun h => by have := hI.low k h; omega
                    unfold Ld at h2
                    rw [Array.getElem?_eq_getElem (by omega)] at h2
                    simpa using h2
                  simp [h1]; omega
            have := hsplit listed.size (Nat.le_refl _)
            rw [List.take_of_length_le (by simp)] at this
            unfold unl
            rw [this, hI.sz]; omega
          omega) (htail a' g' w' hsat)
      · obtain ⟨q', hq'⟩ := Classical.not_forall.1 hall
        have hqm : q' < q + 1 := Classical.byContradiction fun h => hq' (fun h' => absurd h' h)
        have hql : ¬ Ld listed q' := fun h => hq' (fun _ => h)
        refine ⟨fun hr => absurd (ready_ne hd hI.sz hr q' (by omega)) hql, fun i hi => ?_⟩
        obtain ⟨hnl, o, ho, hr⟩ := (ready_mem hI.sz).1 hi
        have hil := (List.getElem?_eq_some_iff.1 ho).1
        have him : i < q + 1 := Classical.byContradiction fun hge => hql (hI.clo.ready ho hr (hd.tail q' i (by omega) hil (by omega)))
        have hiq : i < q := by
          rcases Nat.lt_or_ge i q with h' | h'
          · exact h'
          · exact absurd (show Ld listed i by rw [show i = q by omega]; exact hq) hnl
        have hMi : ContsHold (MI i) g' w' := by
          rcases hMI i hiq with e | ⟨_, ha⟩
          · rw [e]; exact hxA _ _ hI.cM
          · rw [show q - q + i = i by omega] at ha
            exact absurd (hI.clo q i hq ha) hnl
        refine hI.step hst hMt hxt hxd (by omega) hd hnews hs2 hi (by omega) hMi (fun a'' g'' w'' hI' => ih _ a'' g'' w'' ?_ ((Ld.set (by rw [hI.sz]; exact hil)).2 (.inr hq)) hI')
        have := unl_set (listed := listed) (i := i) (by rw [hI.sz]; exact hil) hnl
        omega
  -- ahead of the store
  have main : ∀ (f : Nat) (listed : Array Bool) (a' : Act) (g' : Gh) (w' : World), unl listed ≤ f → ¬ Ld listed q → Inv2 l c M M rs a g listed a' g' w' → wpAny P .any l.toArray Q f listed a' w' := by
    intro f
    induction f with
    | zero =>
      intro listed a' g' w' hf hq hI
      exact absurd (unl_zero (Nat.le_zero.1 hf) (by rw [hI.sz]; omega)) hq
    | succ f ih =>
      intro listed a' g' w' hf hq hI
      refine ⟨fun hr => absurd (ready_ne hd hI.sz hr q (by omega)) hq, fun i hi => ?_⟩
      obtain ⟨hnl, o, ho, hr⟩ := (ready_mem hI.sz).1 hi
      have hil := (List.getElem?_eq_some_iff.1 ho).1
      have hils : i < listed.size := by rw [hI.sz]; exact hil
      have him : i < q + 1 := Classical.byContradiction fun hge => hq (hI.clo.ready ho hr (hd.tail q i (by omega) hil (by omega)))
      have hun := unl_set (listed := listed) (i := i) hils hnl
      by_cases hiq : i < q
      · have hMi : ContsHold (MI i) g' w' := by
          rcases hMI i hiq with e | ⟨e, _⟩
          · rw [e]; exact hMA _ _ hI.cM
          · rw [e]; exact hI.cM
        exact hI.step hst hMt (fun _ h => h) hs.cdep (by omega) hd hnews hs hi (by omega) hMi (fun a'' g'' w'' hI' => ih _ a'' g'' w'' (by omega) (fun h' => by
          rcases (Ld.set hils).1 h' with e | h'
          · omega
          · exact hq h') hI')
      · obtain rfl : i = q := by omega
        obtain rfl : o = os := Option.some.inj (ho.symm.trans hos)
        have hlook := hI.look hst (by omega) hd hs ho hnl hr
        rw [show rs.take i = rs from List.take_of_length_le (by omega)] at hlook
        have hops : OpsHold (sl S rs) o a' g' := by
          intro x hx b k hxk hb
          cases x with
          | tmp t => exact (hlook t (List.mem_append.2 (.inl (List.mem_filterMap.2 ⟨.tmp t, by simpa using hx, rfl⟩))) b k hxk).1 hb
          | const v => cases hxk; rfl
          | global v => cases hxk; rfl
          | func v => cases hxk; rfl
        unfold wpOp
        rw [List.getElem?_toArray, ho]
        simp only
        rw [if_pos (by simp [Region.wanted, hog])]
        refine .inl (Oper.wp_on (hstore a' g' w' hI.ok hI.cM hops) ?_)
        rintro a'' w'' ⟨rfl, hdid⟩
        refine main2 f _ (a'.put (some d) v) g' w'' (by omega) ((Ld.set hils).2 (.inl rfl)) ?_
        have hsub : ∀ j r, Ld (listed.setIfInBounds i true) j → rs[j]? = some r → Ld listed j := fun j r hj hr => by
          rcases (Ld.set hils).1 hj with rfl | hj
          · rw [hqM] at hr; cases hr
          · exact hj
        refine ⟨by simpa using hI.sz, hdid.ok hI.ok, hI.le, ?_, hI.clo.set hils ho hr, fun j hj => ?_, hI.defers, by simp [Act.put, hI.size], fun t ht => ?_, fun j r hr hj hlat => by rw [getD_put_other (fun e => hlr r (List.mem_of_getElem? hr) e.symm)]; exact hI.cur j r hr (hsub j r hj hr) (fun i' r' hlt hli hr' => hlat i' r' hlt ((Ld.set hils).2 (.inr hli)) hr'), fun j r e hj hr he => ?_, fun t ht => ?_⟩
        · intro e he
          rcases List.mem_cons.1 he with rfl | he
          · obtain ⟨b, cap, ob, hm', _, _, _, _, _, hob, hct⟩ := hdid.ex
            exact ⟨_, hm', by simp only [World.objAt, hob]; exact hct⟩
          · have hm' := List.mem_filter.1 he
            obtain ⟨bk, h1, h2⟩ := hI.cM e hm'.1
            refine ⟨bk, h1, ?_⟩
            rw [hdid.other hI.ok (by simpa using hm'.2) h1]
            exact h2
        · rcases (Ld.set hils).1 hj with rfl | hj
          · omega
          · exact hI.low j hj
        · by_cases e : d = t
          · subst e; rw [hpd, getD_put_same (by rw [hI.size]; exact hdn)]
          · rw [getD_put_other e, getD_put_other e]
            exact hI.base t (fun j r hj hr => ht j r ((Ld.set hils).2 (.inr hj)) hr)
        · obtain ⟨bk, h1, h2⟩ := hI.made j r e (hsub j r hj hr) hr he
          refine ⟨bk, h1, ?_⟩
          rw [hdid.other hI.ok (fun hu => hnews.fresh j r e hr he (by rw [hu]; exact hA.tag)) h1]
          exact h2
        · rcases hI.dom t ht with h1 | ⟨j, r, e, hj, hr, he, ht'⟩
          · exact .inl h1
          · exact .inr ⟨j, r, e, (Ld.set hils).2 (.inr hj), hr, he, ht'⟩
  refine wp_region_any hm (main _ _ a g w.drew ?_ (fun hi => ?_) ⟨by simp, hs.ok, Gh.le_refl _, hs.conts, fun i j hi => ?_, fun i hi => ?_, hs.defers, hs.size, fun _ _ => rfl, fun i r hr hi => ?_, fun i r e hi => ?_, fun t ht => .inl ht⟩)
  · unfold unl
    refine Nat.le_trans (List.countP_le_length) ?_
    simp
  all_goals
    unfold Ld at hi
    rw [Array.getElem?_eq_some_iff] at hi
    obtain ⟨_, hi⟩ := hi
    simp at hi
/-! ### The steps -/
variable {M0 MA Mc : Conts} {rest : List Oper} {d : Nat} {oop : Op} {ty : TypeId} {pos : String} {af : Array Edge} {q u k' : Nat} {x y : Operand}
theorem RunC.op {k : Know} {dep : List Nat} (h : OpOk P c S MA ⟨some d, oop, ty, pos, af, none⟩ true k none) [hk : KDep k dep] (hs : subT dep (tags MA) = true) (hn : Nat.blt d c.n = true)
    (K : RunC P c l Q u M MA q rest k' (⟨d, true, dep, k⟩ :: S) Mc) : RunC P c l Q u M MA q (⟨some d, oop, ty, pos, af, none⟩ :: rest) (k' + 1) S Mc :=
  ⟨⟨d, true, dep, k, none⟩, MA, .inl rfl, ⟨rfl, h, hk, fun t ht => .inl (subT_spec hs t ht), fun _ h => (by cases h), by simpa [Nat.blt_eq] using hn, .inl ⟨rfl, rfl⟩⟩, K⟩
theorem RunC.opA {k : Know} {dep : List Nat} (h : OpOk P c S M ⟨some d, oop, ty, pos, af, none⟩ true k none) (ha : anc l q (q - (k' + 1)) = true) [hk : KDep k dep] (hs : subT dep (tags M) = true) (hn : Nat.blt d c.n = true)
    (K : RunC P c l Q u M MA q rest k' (⟨d, true, dep, k⟩ :: S) Mc) : RunC P c l Q u M MA q (⟨some d, oop, ty, pos, af, none⟩ :: rest) (k' + 1) S Mc :=
  ⟨⟨d, true, dep, k, none⟩, M, .inr ⟨rfl, ha⟩, ⟨rfl, h, hk, fun t ht => .inl (subT_spec hs t ht), fun _ h => (by cases h), by simpa [Nat.blt_eq] using hn, .inl ⟨rfl, rfl⟩⟩, K⟩
theorem RunC.new {k : Know} {dep : List Nat} {t : Nat} {ct : Cont} {cdep : List Nat} (h : OpOk P c S MA ⟨some d, oop, ty, pos, af, none⟩ true k (some ⟨t, cdep, ct⟩)) [hk : KDep k dep] [hc : CDep ct cdep]
    (hs : subT dep (tags (⟨t, cdep, ct⟩ :: MA)) = true) (hcs : subT cdep (tags (⟨t, cdep, ct⟩ :: MA)) = true) (hf : subT [t] (tags Mc) = false) (hn : Nat.blt d c.n = true)
    (K : RunC P c l Q u M MA q rest k' (⟨d, true, dep, k⟩ :: S) (⟨t, cdep, ct⟩ :: Mc)) : RunC P c l Q u M MA q (⟨some d, oop, ty, pos, af, none⟩ :: rest) (k' + 1) S Mc :=
  ⟨⟨d, true, dep, k, some ⟨t, cdep, ct⟩⟩, MA, .inl rfl, ⟨rfl, h, hk, fun t ht => .inl (subT_spec hs t ht), fun e he => (by
    cases he
    refine ⟨hc, subT_spec hcs, fun ht => ?_⟩
    have : subT [t] (tags Mc) = true := by
      simp only [subT, Bool.and_true]
      exact List.any_eq_true.2 ⟨t, ht, Nat.beq_refl t⟩
    rw [hf] at this; cases this), by simpa [Nat.blt_eq] using hn, .inl ⟨rfl, rfl⟩⟩, K⟩
theorem RunC.z {ct' : Cont} {dep' : List Nat} {Mc' : Conts} {o : Oper} {v : Value} (h : MutOk P c S M o u ct' d v) (hd : o.dst = some d) (hl : look S d = none) (hn : Nat.blt d c.n = true) (hg : o.guard = none) [hup : UpM Mc u ct' dep' Mc'] [hc : CDep ct' dep'] (hs : subT dep' (tags M) = true) (K : TrL P c l.toArray (⟨d, true, [], kDet v⟩ :: S) Mc' rest Q) : RunC P c l Q u M MA q (o :: rest) 0 S Mc :=
  ⟨ct', dep', Mc', d, v, ⟨hd, hl, by simpa [Nat.blt_eq] using hn⟩, hg, h, hup, hc, subT_spec hs, K⟩
end
end Go.Fl

/- Slices of one's own row and 'copy' into it (elements: integers). No program in sight. -/
namespace Go.Fl
open Go Go.RowKit
section
variable {P : Program} {c : Ctx} {S : Slots} {M : Conts} {p : Bool} {d : Option Tmp} {ty : TypeId} {pos : String} {af : Array Edge} {gd : Option (Nat × Bool)} {x y : Operand} {b b' : Bool}
theorem osl_blk {u len : Nat} {g : Gh} {v : Value} (h : kOsl u len g v) (h0 : 0 < len) : ∃ b cap, g.M u = some (.blk b cap) ∧ v = .slice (some ⟨b, 0, none⟩) len cap := by
  rcases h with ⟨_, h1, _⟩ | h
  · omega
  · exact h
/-- 'r[l:]' of one's own row; a row's room is asked ('cap'), which what it holds says. -/
theorem ok_slOl {t et : TypeId} [ht : TySl P t et] {by' : Nat} {zz : Value} [hz : TySz P et 1 by' zz] {u len len' : Nat} {dep : List Nat} {α : Type} {z : Bool} {e : Enc α} {xs : List α} {i : Nat} [hl : LkM M u (cArr z et e xs len') dep] (hx : opK S x = some (b, kOsl u len)) (hb : p = true → b = true) (hy : opK S y = some (b', kI i)) (hb' : p = true → b' = true)
    (h : p = true → i < len ∧ len = len') : OpOk P c S M ⟨d, .slice t x (some y) none none, ty, pos, af, gd⟩ p (kOsq u 1 i (len - i)) none :=
  OpOk.pure fun hp a g w _ hc ho => by
    have hi : a.eval y = _ := ho y (by simp [Op.operands]) b' _ hy (hb' hp)
    have hlt := h hp
    obtain ⟨bk, cap, h1, h2⟩ := osl_blk (ho x (by simp [Op.operands]) b _ hx (hb hp)) (by omega)
    obtain ⟨bk2, hm2, hobj⟩ := hc _ hl.mem
    simp only at hm2 hobj
    rw [h1] at hm2; cases hm2
    obtain ⟨_, _, cs, _, _, hcap, _⟩ := hobj
    obtain ⟨j, hj, hj1, rfl, _⟩ := hz.h
    refine ⟨.slice (some ⟨bk, i, none⟩) (len - i) (cap - i), ?_, bk, cap, i, h1, by omega, fun _ => by omega, rfl⟩
    have hun : P.underlying t = some (.slice (P.elem t)) := by rw [ht.h]; simp [Program.elem, ht.h]
    have hel : P.elem t = et := by simp [Program.elem, ht.h]
    simp only [execOp, h2, hi, Option.map]
    rw [Sem.run_bind, run_sliceAt_slice w t _ _ _ _ hun, run_slice_l w t _ len cap hun .i64 i (by omega) (by omega), hel]
    have hsz : (sizeOf et).run P w = .ok j.size w := by simp [sizeOf, typeInfo, hj]
    simp only [Result.andThen_ok, Sem.run_pure, hsz, sliced, Option.map, Addr.add_lit]
    simp only [Int.toNat_natCast, hj1, Nat.mul_one, Nat.zero_add]
    rw [if_neg (by omega)]
/-- 'r[:h]' of one's own row. -/
theorem ok_slOh {t et : TypeId} [ht : TySl P t et] {by' : Nat} {zz : Value} [hz : TySz P et 1 by' zz] {u len len' : Nat} {dep : List Nat} {α : Type} {z : Bool} {e : Enc α} {xs : List α} {i : Nat} [hl : LkM M u (cArr z et e xs len') dep] (hx : opK S x = some (b, kOsl u len)) (hb : p = true → b = true) (hy : opK S y = some (b', kI i)) (hb' : p = true → b' = true)
    (h : p = true → i < len ∧ len = len') : OpOk P c S M ⟨d, .slice t x none (some y) none, ty, pos, af, gd⟩ p (kOsq u 1 0 i) none :=
  OpOk.pure fun hp a g w _ hc ho => by
    have hi : a.eval y = _ := ho y (by simp [Op.operands]) b' _ hy (hb' hp)
    have hlt := h hp
    obtain ⟨bk, cap, h1, h2⟩ := osl_blk (ho x (by simp [Op.operands]) b _ hx (hb hp)) (by omega)
    obtain ⟨bk2, hm2, hobj⟩ := hc _ hl.mem
    simp only at hm2 hobj
    rw [h1] at hm2; cases hm2
    obtain ⟨_, _, cs, _, _, hcap, _⟩ := hobj
    obtain ⟨j, hj, hj1, rfl, _⟩ := hz.h
    refine ⟨.slice (some ⟨bk, 0, none⟩) i cap, ?_, bk, cap, 0, h1, by omega, fun _ => by omega, rfl⟩
    have hun : P.underlying t = some (.slice (P.elem t)) := by rw [ht.h]; simp [Program.elem, ht.h]
    have hel : P.elem t = et := by simp [Program.elem, ht.h]
    simp only [execOp, h2, hi, Option.map]
    rw [Sem.run_bind, run_sliceAt_slice w t _ _ _ _ hun, run_slice_h w t _ len cap hun .i64 i (by omega) (by omega), hel]
    have hsz : (sizeOf et).run P w = .ok j.size w := by simp [sizeOf, typeInfo, hj]
    simp only [Result.andThen_ok, Sem.run_pure, hsz, sliced, Option.map, Addr.add_lit]
    simp
end
def cpy (xs ys : List Int) (off m : Nat) : List Int := xs.take off ++ ys.take m ++ xs.drop (off + m)
theorem cpy_len {xs ys : List Int} {off m : Nat} (h1 : off + m ≤ xs.length) (h2 : m ≤ ys.length) : (cpy xs ys off m).length = xs.length := by
  unfold cpy; simp; omega
theorem cpy_at {xs ys : List Int} {off m i : Nat} (h1 : off + m ≤ xs.length) (h2 : m ≤ ys.length) : (cpy xs ys off m)[i]? = if i < off then xs[i]? else if i < off + m then ys[i - off]? else xs[i]? := by
  unfold cpy
  rw [List.append_assoc, List.getElem?_append, List.length_take, show min off xs.length = off by omega]
  split
  · rename_i h; rw [List.getElem?_take, if_pos h]
  · rw [List.getElem?_append, List.length_take, show min m ys.length = m by omega]
    split
    · rename_i h3; rw [if_pos (by omega), List.getElem?_take, if_pos h3]
    · rw [if_neg (by omega), List.getElem?_drop, show off + m + (i - off - m) = i by omega]
/-- The cells of a row, when others are written over some of them. -/
theorem cells_over {cs : Array Value} {vs : List Value} {off : Nat} (h : off + vs.length ≤ cs.size) (i : Nat) :
    (cs.toList.take off ++ vs ++ cs.toList.drop (off + vs.length)).toArray[i]? = if i < off then cs[i]? else if i < off + vs.length then vs[i - off]? else cs[i]? := by
  rw [List.getElem?_toArray, List.append_assoc, List.getElem?_append, List.length_take, Array.length_toList, show min off cs.size = off by omega]
  split
  · rename_i h1; rw [List.getElem?_take, if_pos h1, Array.getElem?_toList]
  · rw [List.getElem?_append]
    split
    · rw [if_pos (by omega)]
    · rw [if_neg (by omega), List.getElem?_drop, Array.getElem?_toList, show off + vs.length + (i - off - vs.length) = i by omega]
theorem arrI_cells {z : Bool} {ty : TypeId} {xs : List Int} {len b cap : Nat} {g : Gh} {o : Option Obj} (h : cArr z ty eI xs len g (.blk b cap) o) : xs.length = len ∧ (z = true → len ≠ 0) ∧ ∃ cs : Array Value, o = some (.cells cs ty (0, 0)) ∧ cs.size = cap ∧ len ≤ cap ∧ cap ≤ maxLen ∧ ∀ (i : Nat) x, xs[i]? = some x → cs[i]? = some (.int .i64 x) := by
  obtain ⟨h0, hz, cs, h1, h2, h3, h4, h5⟩ := h
  refine ⟨h0, hz, cs, h1, by simpa [eI, eInt] using h2, h3, h4, fun i x hx => ?_⟩
  obtain ⟨ds, q1, q2⟩ := h5 i x hx
  have q1 : ds = [.int .i64 x] := q1
  subst q1
  simpa [eI, eInt] using q2 0 _ rfl
theorem arrI_mk {z : Bool} {ty : TypeId} {xs : List Int} {len b cap : Nat} {g : Gh} {cs : Array Value} (h0 : xs.length = len) (hz : z = true → len ≠ 0) (h2 : cs.size = cap) (h3 : len ≤ cap) (h4 : cap ≤ maxLen) (h5 : ∀ (i : Nat) x, xs[i]? = some x → cs[i]? = some (.int .i64 x)) : cArr z ty eI xs len g (.blk b cap) (some (.cells cs ty (0, 0))) :=
  ⟨h0, hz, cs, rfl, by simpa [eI, eInt] using h2, h3, h4, fun i x hx => ⟨[.int .i64 x], rfl, fun j v hj => by
    rcases j with _ | j
    · simp at hj; subst hj; simpa [eI, eInt] using h5 i x hx
    · simp at hj⟩⟩
section
variable {P : Program} {c : Ctx} {S : Slots} {M : Conts} {ty : TypeId} {pos : String} {af : Array Edge} {x y : Operand} {d : Nat}
/-- The head of a row is copied behind. -/
theorem cp_OO {t et : TypeId} [ht : TySl P t et] {by' : Nat} {zz : Value} [hz : TySz P et 1 by' zz] {u off l1 l2 len : Nat} {z : Bool} {xs : List Int} {dep : List Nat} (m : Nat) (hx : opK S x = some (true, kOsq u 1 off l1)) (hy : opK S y = some (true, kOsq u 1 0 l2)) [hl : LkM M u (cArr z et eI xs len) dep]
    (h1 : off + l1 = len) (h2 : l2 ≤ len) (h3 : 0 < l1) (hm : m = min l2 l1) : MutOk P c S M ⟨some d, .call { callee := .builtin .copy, args := #[x, y], argTypes := #[t, t] }, ty, pos, af, none⟩ u (cArr z et eI (cpy xs xs off m) len) d (.int .i64 m) := by
  intro a g w hok hc ho
  obtain ⟨b, cap, o, e1, e2, e3, e4⟩ := ho x (by simp [Op.operands, Call.operands]) true _ hx rfl
  obtain ⟨b', cap', o', f1, f2, f3, f4⟩ := ho y (by simp [Op.operands, Call.operands]) true _ hy rfl
  rw [e1] at f1; cases f1
  obtain ⟨bk2, hm2, hobj⟩ := hc _ hl.mem
  simp only at hm2 hobj
  rw [e1] at hm2; cases hm2
  obtain ⟨a0, a1, cs, a2, a3, a4, a5, a6⟩ := arrI_cells hobj
  have ho1 := e3 (by omega)
  have ho2 := f3 (by omega)
  rw [Nat.mul_one] at ho1 ho2
  subst ho1 ho2
  obtain ⟨j, hj, hj1, rfl, _⟩ := hz.h
  have hm' : m ≤ l1 ∧ m ≤ l2 := by omega
  have hb : w.heap[b]? = some (.cells cs et (0, 0)) := a2
  have hvl : ((xs.take m).map (Value.int .i64)).length = m := by simp; omega
  have hr := run_copy_row (P := P) w t t ty et b o l1 (cap - o) ⟨b, 0, none⟩ l2 (cap - 0) cs et ((xs.take m).map (Value.int .i64)) ht.h (by rw [hj]; simp [hj1]) hb (by rw [hvl, hm])
    (fun i v hv => by
      rw [List.getElem?_map, List.getElem?_take] at hv
      split at hv
      · rename_i hi
        cases hxi : xs[i]? with
        | none => rw [hxi] at hv; cases hv
        | some q =>
          rw [hxi] at hv
          simp only [Option.map_some, Option.some.injEq] at hv
          subst hv
          have hadd : (⟨b, 0, none⟩ : Addr).add i = ⟨b, i, none⟩ := by unfold Addr.add; split <;> simp_all
          rw [hadd]
          simp only [World.cell?, hb]
          simpa using a6 i q hxi
      · cases hv) (by rw [hvl]; omega) (fun v hv => by obtain ⟨q, _, rfl⟩ := List.mem_map.1 hv; rfl)
  unfold Oper.wp
  simp only [execOp, resolve, Sem.run_bind, Sem.run_pure, Result.andThen_ok, invoke, builtin, List.map_toArray, List.map_cons, List.map_nil]
  rw [e4, f4, show (#[Value.slice (some ⟨b, o, none⟩) l1 (cap - o), Value.slice (some ⟨b, 0, none⟩) l2 (cap - 0)] : Array Value) = #[.slice (some ⟨b, o, none⟩) l1 (cap - o), .slice (some ⟨b, 0, none⟩) l2 (cap - 0)] from rfl, hr]
  simp only [Result.andThen_ok, Oper.upon, hvl]
  refine ⟨rfl, ⟨b, cap, _, e1, rfl, rfl, rfl, by simp, fun k hk => setRow_other w b k _ hk, setRow_heap w b cs _ et (0, 0) hb, ?_⟩⟩
  rw [← hvl]
  have hov := cells_over (cs := cs) (vs := (xs.take m).map (Value.int .i64)) (off := o) (by rw [hvl]; omega)
  rw [hvl] at hov ⊢
  refine arrI_mk ((cpy_len (by omega) (by omega)).trans a0) a1 ?_ a4 a5 fun i q hq => ?_
  · simp; omega
  · rw [hov i]
    rw [cpy_at (by omega) (by omega)] at hq
    split
    · rename_i hi; rw [if_pos hi] at hq; exact a6 i q hq
    · rename_i hi; rw [if_neg hi] at hq
      split
      · rename_i hi2; rw [if_pos hi2] at hq
        rw [List.getElem?_map, List.getElem?_take, if_pos (by omega), hq]; rfl
      · rename_i hi2; rw [if_neg hi2] at hq; exact a6 i q hq
variable {ops : Array Oper} {rest : List Oper} {Q : Exit → Act → World → Prop}
/-- A list is copied onto the head of a row. -/
theorem TrL.cpJ {t et : TypeId} [ht : TySl P t et] {by' : Nat} {zz : Value} [hz : TySz P et 1 by' zz] {u len len' : Nat} {z : Bool} {xs ys : List Int} {dep : List Nat} {M' : Conts} (m : Nat) (hx : opK S x = some (true, kOsl u len)) (hy : opK S y = some (true, kRd (eL eI) ys)) [hl : LkM M u (cArr z et eI xs len') dep]
    (h1 : len = len') (h2 : 0 < len) (h3 : 0 < ys.length) (hm : m = min ys.length len) [hup : UpM M u (cArr z et eI (cpy xs ys 0 m) len') [] M'] (hn : Nat.blt d c.n = true)
    (K : TrL P c ops (⟨d, true, [], kI m⟩ :: S) M' rest Q) : TrL P c ops S M (⟨some d, .call { callee := .builtin .copy, args := #[x, y], argTypes := #[t, t] }, ty, pos, af, none⟩ :: rest) Q := by
  intro a g w hsat
  have hdn : d < c.n := by simpa [Nat.blt_eq] using hn
  obtain ⟨b, cap, e1, e4⟩ := osl_blk (opK_holds hsat.slots hx rfl) h2
  obtain ⟨cs0, ⟨ad, cp, k1, k2, k3⟩, hv⟩ := opK_holds hsat.slots hy rfl
  subst k1
  have hv : a.eval y = .slice ad ys.length cp := hv
  rcases k3 with k3 | ⟨b2, o2, rfl, hrow⟩
  · subst k3; simp at h3
  obtain ⟨bk2, hm2, hobj⟩ := hsat.conts _ hl.mem
  simp only at hm2 hobj
  rw [e1] at hm2; cases hm2
  obtain ⟨a0, a1, cs, a2, a3, a4, a5, a6⟩ := arrI_cells hobj
  obtain ⟨j, hj, hj1, rfl, _⟩ := hz.h
  have hb : w.heap[b]? = some (.cells cs et (0, 0)) := a2
  have hvl : ((ys.take m).map (Value.int .i64)).length = m := by simp; omega
  have hr := run_copy_row (P := P) w t t ty et b 0 len cap ⟨b2, o2, none⟩ ys.length cp cs et ((ys.take m).map (Value.int .i64)) ht.h (by rw [hj]; simp [hj1]) hb (by rw [hvl, hm])
    (fun i v hv => by
      rw [List.getElem?_map, List.getElem?_take] at hv
      split at hv
      · rename_i hi
        cases hxi : ys[i]? with
        | none => rw [hxi] at hv; cases hv
        | some q =>
          rw [hxi] at hv
          simp only [Option.map_some, Option.some.injEq] at hv
          subst hv
          have hadd : (⟨b2, o2, none⟩ : Addr).add i = ⟨b2, o2 + i, none⟩ := by unfold Addr.add; split <;> simp_all
          rw [hadd]
          obtain ⟨ds, q1, q2⟩ := hrow i q hxi
          have q1 : ds = [.int .i64 q] := q1
          subst q1
          have := q2 0 _ rfl
          exact hsat.ok.im _ _ _ (by simpa [eI, eInt] using this)
      · cases hv) (by rw [hvl]; omega) (fun v hv => by obtain ⟨q, _, rfl⟩ := List.mem_map.1 hv; rfl)
  refine wpList_plain rfl fun K' hK' => ?_
  unfold Oper.wp
  simp only [execOp, resolve, Sem.run_bind, Sem.run_pure, Result.andThen_ok, invoke, builtin, List.map_toArray, List.map_cons, List.map_nil]
  rw [e4, hv, hr]
  simp only [Result.andThen_ok, Oper.upon, hvl]
  have hbut : ∀ r, But (.blk b cap) w (w.setRow b r) := fun r => ⟨rfl, rfl, rfl, by simp, fun k _ hne => setRow_other w b k r (fun e => hne cap (by rw [e]))⟩
  refine hK' _ _ (K _ ⟨g.J, g.M⟩ _ (hsat.mut e1 (hbut _) (JV.le_refl _) (fun _ _ _ => rfl) ?_ hup inferInstance ?_ hdn rfl))
  · exact fun b' o v hv => by
      have := hsat.ok.im b' o v hv
      rw [World.cell?_of_block (w := w) (setRow_other w b b' _ (fun e => by subst e; have := (hsat.ok.own u _ cap e1).2.2 o; rw [this] at hv; cases hv))]
      exact this
  · rw [setRow_heap w b cs _ et (0, 0) hb]
    have hov := cells_over (cs := cs) (vs := (ys.take m).map (Value.int .i64)) (off := 0) (by rw [hvl]; omega)
    rw [hvl] at hov
    refine arrI_mk ((cpy_len (by omega) (by omega)).trans a0) a1 ?_ a4 a5 fun i q hq => ?_
    · simp; omega
    · rw [hov i]
      rw [cpy_at (by omega) (by omega)] at hq
      split
      · omega
      · rename_i hi; rw [if_neg hi] at hq
        split
        · rename_i hi2; rw [if_pos hi2] at hq
          rw [List.getElem?_map, List.getElem?_take, if_pos (by omega), hq]; rfl
        · rename_i hi2; rw [if_neg hi2] at hq; exact a6 i q hq
end
end Go.Fl

/- Contracts: the library, the base, the reference of chapter 6. -/
namespace Go.Fl
open Go Go.Proofs


theorem ct_bitsMul (x y : Nat) (hx : x < 4294967296) (hy : y < 4294967296) : Ct Tryz.prog 73 [kInt .u64 x, kInt .u64 y] (kTup [kInt .u64 0, kInt .u64 (x * y : Nat)]) := by
  have hxy : x * y < 18446744073709551616 := by
    have : x * y ≤ 4294967295 * 4294967295 := Nat.mul_le_mul (by omega) (by omega)
    omega
  have := Ct.det (P := Tryz.prog) (f := 73) (us := [.int .u64 x, .int .u64 y]) fun w => (Any.bits_Mul Tryz.lays212 x y (by omega) (by omega) w).mono fun e w' ⟨h1, h2⟩ => ⟨h1, by subst h2; first | exact Below.refl _ _ | exact RowKit.Below.refl _ _⟩
  rw [Nat.div_eq_of_lt hxy, Nat.mod_eq_of_lt hxy] at this
  intro w J him vs hvs
  refine (this w J him vs hvs).mono fun e w' ⟨r, J', h1, h2, h3, h4, h5, h6⟩ => ⟨r, J', h1, h2, h3, h4, h5, ?_⟩
  exact ⟨[.int .u64 0, .int .u64 (x * y : Nat)], by rw [h6]; rfl, rfl, rfl, trivial⟩
def rowN (z : Int) (len n : Nat) : List Int := List.replicate n z ++ List.replicate (len - n) 0
theorem rowN_len {z : Int} {len n : Nat} (h : n ≤ len) : (rowN z len n).length = len := by unfold rowN; simp; omega
theorem rowN_at {z : Int} {len n i : Nat} (h : n ≤ len) : (rowN z len n)[i]? = if i < n then some z else if i < len then some 0 else none := by
  unfold rowN
  rw [List.getElem?_append, List.length_replicate]
  split
  · rename_i h1; rw [List.getElem?_replicate, if_pos h1]
  · rw [List.getElem?_replicate]
    by_cases h2 : i < len
    · rw [if_pos h2, if_pos (by omega)]
    · rw [if_neg h2, if_neg (by omega)]
theorem rowN_cpy {z : Int} {len n m : Nat} (h : n ≤ len) (hm : m = min n (len - n)) : cpy (rowN z len n) (rowN z len n) n m = rowN z len (n + m) := by
  have hl := rowN_len (z := z) h
  refine List.ext_getElem? fun i => ?_
  rw [cpy_at (by omega) (by omega), rowN_at (n := n + m) (by omega), rowN_at (n := n) h]
  by_cases h1 : i < n
  · rw [if_pos h1, if_pos h1, if_pos (by omega)]
  · rw [if_neg h1, if_neg h1]
    by_cases h2 : i < n + m
    · rw [if_pos h2, if_pos h2, rowN_at h, if_pos (by omega)]
    · rw [if_neg h2, if_neg h2]
theorem rowN_one {z : Int} {len : Nat} (h : 0 < len) : cpy (List.replicate len 0) [z] 0 1 = rowN z len 1 := by
  refine List.ext_getElem? fun i => ?_
  rw [cpy_at (by simp; omega) (by simp), rowN_at (by omega), List.getElem?_replicate]
  by_cases h1 : i < 1
  · obtain rfl : i = 0 := by omega
    simp
  · rw [if_neg (by omega), if_neg (by omega), if_neg h1]
theorem rowN_all {z : Int} {len : Nat} : rowN z len len = List.replicate len z := by unfold rowN; simp
theorem u64_nat {n : Nat} (h : n < 18446744073709551616) : IntKind.u64.wrap (n : Int) = n := by rw [IntKind.wrap_u64]; omega
theorem cmp1 {x y : Int} : cmpI [x] [y] = if x < y then -1 else if y < x then 1 else 0 := by
  rw [cmpI]; rfl


theorem cmp_ne {x y : Int} (h : ¬ x = y) (k : cmpI [x] [y] = 0) : False := by
  rw [cmp1] at k; split at k
  · omega
  · split at k <;> omega
theorem cmp_sw {x y : Int} (h : x ≠ y) : (if x < y then (-1 : Int) else if y < x then 1 else 0) = if x < y then -1 else 1 := by
  split
  · rfl
  · rw [if_pos (by omega)]
theorem le_of_all {a b : Nat} (h : ∀ i, i < a → i < b) : ¬ b < a := fun hh => Nat.lt_irrefl _ (h b hh)

set_option maxRecDepth 100000 in
theorem ct_Ints (a b : List Int) : Ct Tryz.prog 17 [kRd (eL eI) a, kRd (eL eI) b] (kB (decide (a = b))) := by
  refine Ct.mk Tryz.func17 rfl Tryz.ntmps17 rfl (fun w J => ?_)
  refine Tr.fact (s := 0) rfl (fun _ _ h => lenB h) (fun hb => ?_)
  refine Tr.seq ?_
  refine Tr.rg ?_
  refine TrL.op (ok_assign rfl (fun _ => rfl)) rfl rfl ?_
  refine TrL.fin ?_
  refine End.nxt ?_
  refine Tr.seq ?_
  refine Tr.seq ?_
  refine Tr.rg ?_
  refine TrL.op (ok_move rfl (fun _ => rfl)) rfl rfl ?_
  refine TrL.op (ok_lenJ rfl (fun _ => rfl)) rfl rfl ?_
  refine TrL.op (ok_move rfl (fun _ => rfl)) rfl rfl ?_
  refine TrL.op (ok_lenJ rfl (fun _ => rfl)) rfl rfl ?_
  refine TrL.op (ok_neq rfl (fun _ => rfl) rfl (fun _ => rfl)) rfl rfl ?_
  refine TrL.fin ?_
  refine End.nxt ?_
  refine Tr.cnd rfl ?_ ?_
  · intro h1
    replace h1 := of_decide_eq_true h1
    refine Tr.seq ?_
    refine Tr.rg ?_
    refine TrL.op (ok_assign rfl (fun _ => rfl)) rfl rfl ?_
    refine TrL.fin ?_
    refine End.nxt ?_
    refine Tr.ret ?_
    refine Rts.thn ?_
    exact Rts.res1 (fn := Tryz.f17) rfl (.b rfl (by symm; rw [decide_eq_false_iff_not]; intro e; exact h1 (by rw [e])) <| .nil)
  · intro h1
    replace h1 := Classical.not_not.1 (of_decide_eq_false h1)
    refine Tr.skip ?_
    refine End.nxt ?_
    refine Tr.seq ?_
    refine Tr.seq ?_
    refine Tr.rg ?_
    refine TrL.op (ok_assign rfl (fun _ => rfl)) rfl rfl ?_
    refine TrL.fin ?_
    refine End.nxt ?_
    refine Tr.for1 (σ := Nat) [⟨0, true, _, _⟩, ⟨1, true, _, _⟩] [] (fun k => [⟨5, true, [], kI (k : Int)⟩]) (fun k => []) (fun k => k ≤ a.length ∧ ∀ i, i < k → nth a i = nth b i) (fun k => a = b) (fun k => a.length - k) (0) ⟨Nat.zero_le _, fun i h => absurd h (by omega)⟩ (Ent.mk (.i rfl (by first | rfl | omega | (simp; done) | (simp; omega) | assumption) <| .k rfl rfl <| .k rfl rfl <| .nil) (.nil) rfl) ?_ ?_
    · rintro k ⟨hk0, hR0⟩
      refine Tr.norm (S' := [⟨5, true, _, _⟩, ⟨0, true, _, _⟩, ⟨1, true, _, _⟩]) (M' := []) rfl rfl ?_
      refine Tr.seq ?_
      refine Tr.seq ?_
      refine Tr.rg ?_
      refine TrL.op (ok_move rfl (fun _ => rfl)) rfl rfl ?_
      refine TrL.op (ok_move rfl (fun _ => rfl)) rfl rfl ?_
      refine TrL.op (ok_lenJ rfl (fun _ => rfl)) rfl rfl ?_
      refine TrL.op (ok_lss rfl (fun _ => rfl) rfl (fun _ => rfl)) rfl rfl ?_
      refine TrL.fin ?_
      refine End.nxt ?_
      refine Tr.cnd rfl ?_ ?_
      · intro h4
        replace h4 := of_decide_eq_true h4
        refine Tr.skip ?_
        refine End.nxt ?_
        refine Tr.seq ?_
        refine Tr.blk ?_
        refine Tr.seq ?_
        refine Tr.draw 8 mixed (by kernel_rfl) ?_
        refine RunD.op (ok_move rfl (fun _ => rfl)) rfl rfl ?_
        refine RunD.op (ok_move rfl (fun _ => rfl)) rfl rfl ?_
        first | refine RunD.op (ok_idxN rfl (fun _ => rfl) rfl (fun _ => rfl) rfl (fun _ => by omega)) rfl rfl ?_ | refine RunD.op (ok_idxP rfl (fun _ => rfl) rfl (fun _ => rfl) rfl (fun _ => by omega)) rfl rfl ?_
        refine RunD.op (ok_ldP rfl (fun _ => rfl) rfl) rfl rfl ?_
        refine RunD.op (ok_move rfl (fun _ => rfl)) rfl rfl ?_
        refine RunD.op (ok_move rfl (fun _ => rfl)) rfl rfl ?_
        first | refine RunD.op (ok_idxN rfl (fun _ => rfl) rfl (fun _ => rfl) rfl (fun _ => by omega)) rfl rfl ?_ | refine RunD.op (ok_idxP rfl (fun _ => rfl) rfl (fun _ => rfl) rfl (fun _ => by omega)) rfl rfl ?_
        refine RunD.op (ok_ldP rfl (fun _ => rfl) rfl) rfl rfl ?_
        refine RunD.z ?_
        refine TrL.op (ok_neq rfl (fun _ => rfl) rfl (fun _ => rfl)) rfl rfl ?_
        refine TrL.fin ?_
        refine End.nxt ?_
        refine Tr.cnd rfl ?_ ?_
        · intro h6
          replace h6 := of_decide_eq_true h6
          refine Tr.seq ?_
          refine Tr.rg ?_
          refine TrL.op (ok_assign rfl (fun _ => rfl)) rfl rfl ?_
          refine TrL.fin ?_
          refine End.nxt ?_
          refine Tr.ret ?_
          refine Rts.out ?_
          refine Rts.thn ?_
          refine Rts.thn ?_
          refine Rts.out ?_
          refine Rts.thn ?_
          refine Rts.thn ?_
          exact Rts.res1 (fn := Tryz.f17) rfl (.b rfl (by symm; rw [decide_eq_false_iff_not]; intro e; exact h6 (by rw [e])) <| .nil)
        · intro h6
          replace h6 := Classical.not_not.1 (of_decide_eq_false h6)
          refine Tr.skip ?_
          refine End.blk ?_
          refine End.nxt ?_
          refine Tr.rg ?_
          refine TrL.op (ok_move rfl (fun _ => rfl)) rfl rfl ?_
          refine TrL.op (ok_add rfl (fun _ => rfl) rfl (fun _ => rfl) (fun _ => by omega)) rfl rfl ?_
          refine TrL.op (ok_assign rfl (fun _ => rfl)) rfl rfl ?_
          refine TrL.fin ?_
          exact End.lp (k + 1) ⟨by omega, all_succ hR0 h6⟩ (by omega) (Ent.mk (.i rfl (by first | rfl | omega | (simp; done) | (simp; omega) | assumption) <| .k rfl rfl <| .k rfl rfl <| .nil) (.nil) rfl)
      · intro h4
        replace h4 := Int.not_lt.1 (of_decide_eq_false h4)
        refine Tr.exit ?_
        refine Exs.thn ?_
        refine Exs.thn ?_
        refine Exs.here ?_
        exact End.cut (k) (ext_nth (by omega) (fun i hi => hR0 i (by omega))) (Ent.mk (.i rfl (by first | rfl | omega | (simp; done) | (simp; omega) | assumption) <| .k rfl rfl <| .k rfl rfl <| .nil) (.nil) rfl)
    · intro k hE0
      refine End.norm (S' := [⟨5, true, _, _⟩, ⟨0, true, _, _⟩, ⟨1, true, _, _⟩]) (M' := []) rfl rfl ?_
      refine End.nxt ?_
      refine Tr.seq ?_
      refine Tr.rg ?_
      refine TrL.op (ok_assign rfl (fun _ => rfl)) rfl rfl ?_
      refine TrL.fin ?_
      refine End.nxt ?_
      refine Tr.ret ?_
      exact Rts.res1 (fn := Tryz.f17) rfl (.b rfl (by symm; rw [decide_eq_true_eq]; exact hE0) <| .nil)

set_option maxRecDepth 100000 in
theorem ct_rCheckList (l : List Int) (n : Nat) : Ct Tryz.prog 22 [kRd (eL eI) l, kI (n : Int)] (kI (chkL l n)) := by
  refine Ct.mk Tryz.func22 rfl Tryz.ntmps22 rfl (fun w J => ?_)
  refine Tr.fact (s := 0) rfl (fun _ _ h => lenB h) (fun hb => ?_)
  refine Tr.seq ?_
  refine Tr.rg ?_
  refine TrL.op (ok_assign rfl (fun _ => rfl)) rfl rfl ?_
  refine TrL.fin ?_
  refine End.nxt ?_
  refine Tr.seq ?_
  refine Tr.seq ?_
  refine Tr.rg ?_
  refine TrL.op (ok_assign rfl (fun _ => rfl)) rfl rfl ?_
  refine TrL.fin ?_
  refine End.nxt ?_
  refine Tr.for1 (σ := Nat) [⟨0, true, _, _⟩, ⟨1, true, _, _⟩] [] (fun k => [⟨5, true, [], kI (k : Int)⟩]) (fun k => []) (fun k => k ≤ l.length ∧ ∀ i, i < k → 0 ≤ nth l i ∧ nth l i < n) (fun k => ∀ i, i < l.length → 0 ≤ nth l i ∧ nth l i < n) (fun k => l.length - k) (0) ⟨Nat.zero_le _, fun i h => absurd h (by omega)⟩ (Ent.mk (.i rfl (by first | rfl | omega | (simp; done) | (simp; omega) | assumption) <| .k rfl rfl <| .k rfl rfl <| .nil) (.nil) rfl) ?_ ?_
  · rintro k ⟨hk0, hR0⟩
    refine Tr.norm (S' := [⟨5, true, _, _⟩, ⟨0, true, _, _⟩, ⟨1, true, _, _⟩]) (M' := []) rfl rfl ?_
    refine Tr.seq ?_
    refine Tr.seq ?_
    refine Tr.rg ?_
    refine TrL.op (ok_move rfl (fun _ => rfl)) rfl rfl ?_
    refine TrL.op (ok_move rfl (fun _ => rfl)) rfl rfl ?_
    refine TrL.op (ok_lenJ rfl (fun _ => rfl)) rfl rfl ?_
    refine TrL.op (ok_lss rfl (fun _ => rfl) rfl (fun _ => rfl)) rfl rfl ?_
    refine TrL.fin ?_
    refine End.nxt ?_
    refine Tr.cnd rfl ?_ ?_
    · intro h2
      replace h2 := of_decide_eq_true h2
      refine Tr.skip ?_
      refine End.nxt ?_
      refine Tr.seq ?_
      refine Tr.blk ?_
      refine Tr.seq ?_
      refine Tr.rg ?_
      refine TrL.op (ok_move rfl (fun _ => rfl)) rfl rfl ?_
      refine TrL.op (ok_move rfl (fun _ => rfl)) rfl rfl ?_
      first | refine TrL.op (ok_idxN rfl (fun _ => rfl) rfl (fun _ => rfl) rfl (fun _ => by omega)) rfl rfl ?_ | refine TrL.op (ok_idxP rfl (fun _ => rfl) rfl (fun _ => rfl) rfl (fun _ => by omega)) rfl rfl ?_
      refine TrL.op (ok_ldP rfl (fun _ => rfl) rfl) rfl rfl ?_
      refine TrL.op (ok_lss rfl (fun _ => rfl) rfl (fun _ => rfl)) rfl rfl ?_
      refine TrL.op (ok_move rfl (fun _ => rfl)) rfl rfl ?_
      refine TrL.gd rfl rfl rfl (ok_move rfl (fun _ => rfl)) rfl rfl ?_
      refine TrL.gd rfl rfl rfl (ok_move rfl (fun _ => rfl)) rfl rfl ?_
      first | refine TrL.gd rfl rfl rfl (ok_idxN rfl id rfl id rfl (fun hp => by simp at hp; omega)) rfl rfl ?_ | refine TrL.gd rfl rfl rfl (ok_idxP rfl id rfl id rfl (fun hp => by simp at hp; omega)) rfl rfl ?_
      refine TrL.gd rfl rfl rfl (ok_ldP rfl id rfl) rfl rfl ?_
      refine TrL.gd rfl rfl rfl (ok_move rfl (fun _ => rfl)) rfl rfl ?_
      refine TrL.gd rfl rfl rfl (ok_geq rfl id rfl id) rfl rfl ?_
      refine TrL.op (ok_or rfl (fun _ => rfl) rfl (fun hp h => gdF2 ((fun _ => rfl) hp) h)) rfl rfl ?_
      refine TrL.fin ?_
      refine End.nxt ?_
      refine Tr.cnd rfl ?_ ?_
      · intro h4
        try simp only [decide_eq_true_eq, Bool.or_eq_true] at h4
        refine Tr.seq ?_
        refine Tr.rg ?_
        refine TrL.op (ok_assign rfl (fun _ => rfl)) rfl rfl ?_
        refine TrL.fin ?_
        refine End.nxt ?_
        refine Tr.ret ?_
        refine Rts.out ?_
        refine Rts.thn ?_
        refine Rts.thn ?_
        refine Rts.out ?_
        refine Rts.thn ?_
        refine Rts.thn ?_
        exact Rts.res1 (fn := Tryz.f22) rfl (.i rfl (chkL_out (i := k) (by omega) (by omega)) <| .nil)
      · intro h4
        try simp only [decide_eq_false_iff_not, Bool.or_eq_false_iff, Int.not_lt, Int.not_le] at h4
        refine Tr.skip ?_
        refine End.blk ?_
        refine End.nxt ?_
        refine Tr.rg ?_
        refine TrL.op (ok_move rfl (fun _ => rfl)) rfl rfl ?_
        refine TrL.op (ok_add rfl (fun _ => rfl) rfl (fun _ => rfl) (fun _ => by omega)) rfl rfl ?_
        refine TrL.op (ok_assign rfl (fun _ => rfl)) rfl rfl ?_
        refine TrL.fin ?_
        exact End.lp (k + 1) ⟨by omega, all_succ hR0 (by omega)⟩ (by omega) (Ent.mk (.i rfl (by first | rfl | omega | (simp; done) | (simp; omega) | assumption) <| .k rfl rfl <| .k rfl rfl <| .nil) (.nil) rfl)
    · intro h2
      replace h2 := Int.not_lt.1 (of_decide_eq_false h2)
      refine Tr.exit ?_
      refine Exs.thn ?_
      refine Exs.thn ?_
      refine Exs.here ?_
      exact End.cut (k) (fun i hi => hR0 i (by omega)) (Ent.mk (.i rfl (by first | rfl | omega | (simp; done) | (simp; omega) | assumption) <| .k rfl rfl <| .k rfl rfl <| .nil) (.nil) rfl)
  · intro k hE0
    refine End.norm (S' := [⟨5, true, _, _⟩, ⟨0, true, _, _⟩, ⟨1, true, _, _⟩]) (M' := []) rfl rfl ?_
    refine End.nxt ?_
    refine Tr.seq ?_
    refine Tr.seq ?_
    refine Tr.rg ?_
    refine TrL.op (ok_assign rfl (fun _ => rfl)) rfl rfl ?_
    refine TrL.fin ?_
    refine End.nxt ?_
    refine Tr.for1 (σ := Nat) [⟨0, true, _, _⟩] [] (fun m => [⟨6, true, [], kI (m : Int)⟩]) (fun m => []) (fun m => m ≤ l.length ∧ ∀ i, i < m → ∀ q, q < i → nth l i ≠ nth l q) (fun m => l.Nodup) (fun m => l.length - m) (0) ⟨Nat.zero_le _, fun i h => absurd h (by omega)⟩ (Ent.mk (.i rfl (by first | rfl | omega | (simp; done) | (simp; omega) | assumption) <| .k rfl rfl <| .nil) (.nil) rfl) ?_ ?_
    · rintro m ⟨hk1, hR1⟩
      refine Tr.norm (S' := [⟨6, true, _, _⟩, ⟨0, true, _, _⟩]) (M' := []) rfl rfl ?_
      refine Tr.seq ?_
      refine Tr.seq ?_
      refine Tr.rg ?_
      refine TrL.op (ok_move rfl (fun _ => rfl)) rfl rfl ?_
      refine TrL.op (ok_move rfl (fun _ => rfl)) rfl rfl ?_
      refine TrL.op (ok_lenJ rfl (fun _ => rfl)) rfl rfl ?_
      refine TrL.op (ok_lss rfl (fun _ => rfl) rfl (fun _ => rfl)) rfl rfl ?_
      refine TrL.fin ?_
      refine End.nxt ?_
      refine Tr.cnd rfl ?_ ?_
      · intro h7
        replace h7 := of_decide_eq_true h7
        refine Tr.skip ?_
        refine End.nxt ?_
        refine Tr.seq ?_
        refine Tr.blk ?_
        refine Tr.seq ?_
        refine Tr.rg ?_
        refine TrL.op (ok_assign rfl (fun _ => rfl)) rfl rfl ?_
        refine TrL.fin ?_
        refine End.nxt ?_
        refine Tr.for1 (σ := Nat) [⟨0, true, _, _⟩, ⟨6, true, _, _⟩] [] (fun q => [⟨7, true, [], kI (q : Int)⟩]) (fun q => []) (fun q => q ≤ m ∧ ∀ i, i < q → nth l m ≠ nth l i) (fun q => ∀ i, i < m → nth l m ≠ nth l i) (fun q => m - q) (0) ⟨Nat.zero_le _, fun i h => absurd h (by omega)⟩ (Ent.mk (.i rfl (by first | rfl | omega | (simp; done) | (simp; omega) | assumption) <| .k rfl rfl <| .k rfl rfl <| .nil) (.nil) rfl) ?_ ?_
        · rintro q ⟨hk2, hR2⟩
          refine Tr.norm (S' := [⟨7, true, _, _⟩, ⟨0, true, _, _⟩, ⟨6, true, _, _⟩]) (M' := []) rfl rfl ?_
          refine Tr.seq ?_
          refine Tr.seq ?_
          refine Tr.rg ?_
          refine TrL.op (ok_move rfl (fun _ => rfl)) rfl rfl ?_
          refine TrL.op (ok_move rfl (fun _ => rfl)) rfl rfl ?_
          refine TrL.op (ok_lss rfl (fun _ => rfl) rfl (fun _ => rfl)) rfl rfl ?_
          refine TrL.fin ?_
          refine End.nxt ?_
          refine Tr.cnd rfl ?_ ?_
          · intro h10
            replace h10 := of_decide_eq_true h10
            refine Tr.skip ?_
            refine End.nxt ?_
            refine Tr.seq ?_
            refine Tr.blk ?_
            refine Tr.seq ?_
            refine Tr.draw 8 mixed (by kernel_rfl) ?_
            refine RunD.op (ok_move rfl (fun _ => rfl)) rfl rfl ?_
            refine RunD.op (ok_move rfl (fun _ => rfl)) rfl rfl ?_
            first | refine RunD.op (ok_idxN rfl (fun _ => rfl) rfl (fun _ => rfl) rfl (fun _ => by omega)) rfl rfl ?_ | refine RunD.op (ok_idxP rfl (fun _ => rfl) rfl (fun _ => rfl) rfl (fun _ => by omega)) rfl rfl ?_
            refine RunD.op (ok_ldP rfl (fun _ => rfl) rfl) rfl rfl ?_
            refine RunD.op (ok_move rfl (fun _ => rfl)) rfl rfl ?_
            refine RunD.op (ok_move rfl (fun _ => rfl)) rfl rfl ?_
            first | refine RunD.op (ok_idxN rfl (fun _ => rfl) rfl (fun _ => rfl) rfl (fun _ => by omega)) rfl rfl ?_ | refine RunD.op (ok_idxP rfl (fun _ => rfl) rfl (fun _ => rfl) rfl (fun _ => by omega)) rfl rfl ?_
            refine RunD.op (ok_ldP rfl (fun _ => rfl) rfl) rfl rfl ?_
            refine RunD.z ?_
            refine TrL.op (ok_eql rfl (fun _ => rfl) rfl (fun _ => rfl)) rfl rfl ?_
            refine TrL.fin ?_
            refine End.nxt ?_
            refine Tr.cnd rfl ?_ ?_
            · intro h12
              replace h12 := of_decide_eq_true h12
              refine Tr.seq ?_
              refine Tr.rg ?_
              refine TrL.op (ok_assign rfl (fun _ => rfl)) rfl rfl ?_
              refine TrL.fin ?_
              refine End.nxt ?_
              refine Tr.ret ?_
              refine Rts.out ?_
              refine Rts.thn ?_
              refine Rts.thn ?_
              refine Rts.out ?_
              refine Rts.thn ?_
              refine Rts.out ?_
              refine Rts.thn ?_
              refine Rts.thn ?_
              refine Rts.out ?_
              refine Rts.thn ?_
              refine Rts.thn ?_
              exact Rts.res1 (fn := Tryz.f22) rfl (.i rfl (chkL_dup hE0 (i := m) (k := q) (by omega) (by omega) h12) <| .nil)
            · intro h12
              replace h12 := of_decide_eq_false h12
              refine Tr.skip ?_
              refine End.blk ?_
              refine End.nxt ?_
              refine Tr.rg ?_
              refine TrL.op (ok_move rfl (fun _ => rfl)) rfl rfl ?_
              refine TrL.op (ok_add rfl (fun _ => rfl) rfl (fun _ => rfl) (fun _ => by omega)) rfl rfl ?_
              refine TrL.op (ok_assign rfl (fun _ => rfl)) rfl rfl ?_
              refine TrL.fin ?_
              exact End.lp (q + 1) ⟨by omega, all_succ hR2 h12⟩ (by omega) (Ent.mk (.i rfl (by first | rfl | omega | (simp; done) | (simp; omega) | assumption) <| .k rfl rfl <| .k rfl rfl <| .nil) (.nil) rfl)
          · intro h10
            replace h10 := Int.not_lt.1 (of_decide_eq_false h10)
            refine Tr.exit ?_
            refine Exs.thn ?_
            refine Exs.thn ?_
            refine Exs.here ?_
            exact End.cut (q) (fun i hi => hR2 i (by omega)) (Ent.mk (.i rfl (by first | rfl | omega | (simp; done) | (simp; omega) | assumption) <| .k rfl rfl <| .k rfl rfl <| .nil) (.nil) rfl)
        · intro q hE2
          refine End.norm (S' := [⟨7, true, _, _⟩, ⟨0, true, _, _⟩, ⟨6, true, _, _⟩]) (M' := []) rfl rfl ?_
          refine End.blk ?_
          refine End.nxt ?_
          refine Tr.rg ?_
          refine TrL.op (ok_move rfl (fun _ => rfl)) rfl rfl ?_
          refine TrL.op (ok_add rfl (fun _ => rfl) rfl (fun _ => rfl) (fun _ => by omega)) rfl rfl ?_
          refine TrL.op (ok_assign rfl (fun _ => rfl)) rfl rfl ?_
          refine TrL.fin ?_
          exact End.lp (m + 1) ⟨by omega, all_succ hR1 hE2⟩ (by omega) (Ent.mk (.i rfl (by first | rfl | omega | (simp; done) | (simp; omega) | assumption) <| .k rfl rfl <| .nil) (.nil) rfl)
      · intro h7
        replace h7 := Int.not_lt.1 (of_decide_eq_false h7)
        refine Tr.exit ?_
        refine Exs.thn ?_
        refine Exs.thn ?_
        refine Exs.here ?_
        exact End.cut (m) (nodup_of_pairs (fun i hi => hR1 i (by omega))) (Ent.mk (.i rfl (by first | rfl | omega | (simp; done) | (simp; omega) | assumption) <| .k rfl rfl <| .nil) (.nil) rfl)
    · intro m hE1
      refine End.norm (S' := [⟨6, true, _, _⟩, ⟨0, true, _, _⟩]) (M' := []) rfl rfl ?_
      refine End.nxt ?_
      refine Tr.seq ?_
      refine Tr.rg ?_
      refine TrL.op (ok_assign rfl (fun _ => rfl)) rfl rfl ?_
      refine TrL.fin ?_
      refine End.nxt ?_
      refine Tr.ret ?_
      exact Rts.res1 (fn := Tryz.f22) rfl (.i rfl (chkL_in hE0 hE1) <| .nil)

set_option maxRecDepth 100000 in
theorem ct_rCheck (o : Ori) : Ct Tryz.prog 7 [kRd eO o] (kI (chkO o)) := by
  refine Ct.mk Tryz.func7 rfl Tryz.ntmps7 rfl (fun w J => ?_)
  refine Tr.seq ?_
  refine Tr.rg ?_
  refine TrL.new (ok_box 1 rfl (fun _ => rfl) rfl) rfl rfl rfl rfl ?_
  refine TrL.op (ok_assign rfl (fun _ => rfl)) rfl rfl ?_
  refine TrL.fin ?_
  refine End.nxt ?_
  refine Tr.seq ?_
  refine Tr.rg ?_
  refine TrL.op (ok_fldO rfl (fun _ => rfl)) rfl rfl ?_
  refine TrL.op (ok_ldB rfl (fun _ => rfl) rfl) rfl rfl ?_
  refine TrL.op (ok_lenJ rfl (fun _ => rfl)) rfl rfl ?_
  refine TrL.op (ok_assign rfl (fun _ => rfl)) rfl rfl ?_
  refine TrL.fin ?_
  refine End.nxt ?_
  refine Tr.seq ?_
  refine Tr.seq ?_
  refine Tr.rg ?_
  refine TrL.op (ok_move rfl (fun _ => rfl)) rfl rfl ?_
  refine TrL.op (ok_fldO rfl (fun _ => rfl)) rfl rfl ?_
  refine TrL.op (ok_ldB rfl (fun _ => rfl) rfl) rfl rfl ?_
  refine TrL.op (ok_lenJ rfl (fun _ => rfl)) rfl rfl ?_
  refine TrL.op (ok_neq rfl (fun _ => rfl) rfl (fun _ => rfl)) rfl rfl ?_
  refine TrL.op (ok_move rfl (fun _ => rfl)) rfl rfl ?_
  refine TrL.gd rfl rfl rfl (ok_move rfl (fun _ => rfl)) rfl rfl ?_
  refine TrL.gd rfl rfl rfl (ok_eql rfl id rfl (fun _ => rfl)) rfl rfl ?_
  refine TrL.op (ok_or rfl (fun _ => rfl) rfl (fun hp h => gdF2 ((fun _ => rfl) hp) h)) rfl rfl ?_
  refine TrL.fin ?_
  refine End.nxt ?_
  refine Tr.cnd rfl ?_ ?_
  · intro h2
    try simp only [decide_eq_true_eq, Bool.or_eq_true, ne_eq] at h2
    refine Tr.seq ?_
    refine Tr.rg ?_
    refine TrL.op (ok_assign rfl (fun _ => rfl)) rfl rfl ?_
    refine TrL.fin ?_
    refine End.nxt ?_
    refine Tr.ret ?_
    refine Rts.thn ?_
    exact Rts.res1 (fn := Tryz.f7) rfl (.i rfl (by unfold chkO; rw [if_pos (by omega)]) <| .nil)
  · intro h2
    try simp only [decide_eq_false_iff_not, Bool.or_eq_false_iff, ne_eq, Classical.not_not] at h2
    refine Tr.skip ?_
    refine End.nxt ?_
    refine Tr.seq ?_
    refine Tr.seq ?_
    refine Tr.rg ?_
    refine TrL.op (ok_move rfl (fun _ => rfl)) rfl rfl ?_
    refine TrL.op (ok_gtr rfl (fun _ => rfl) rfl (fun _ => rfl)) rfl rfl ?_
    refine TrL.fin ?_
    refine End.nxt ?_
    refine Tr.cnd rfl ?_ ?_
    · intro h4
      replace h4 := of_decide_eq_true h4
      refine Tr.seq ?_
      refine Tr.rg ?_
      refine TrL.op (ok_assign rfl (fun _ => rfl)) rfl rfl ?_
      refine TrL.fin ?_
      refine End.nxt ?_
      refine Tr.ret ?_
      refine Rts.thn ?_
      exact Rts.res1 (fn := Tryz.f7) rfl (.i rfl (by unfold chkO; rw [if_neg (by omega), if_pos (by omega)]) <| .nil)
    · intro h4
      replace h4 := Int.not_lt.1 (of_decide_eq_false h4)
      refine Tr.skip ?_
      refine End.nxt ?_
      refine Tr.seq ?_
      refine Tr.seq ?_
      refine Tr.rg ?_
      refine TrL.op (ok_fldO rfl (fun _ => rfl)) rfl rfl ?_
      refine TrL.op (ok_ldB rfl (fun _ => rfl) rfl) rfl rfl ?_
      refine TrL.op (ok_move rfl (fun _ => rfl)) rfl rfl ?_
      refine TrL.op (ok_call (fun hp => ct_rCheckList _ _) (.a rfl (fun _ => rfl) <| .a rfl (fun _ => rfl) <| .nil)) rfl rfl ?_
      refine TrL.op (ok_assign rfl (fun _ => rfl)) rfl rfl ?_
      refine TrL.fin ?_
      refine End.nxt ?_
      refine Tr.seq ?_
      refine Tr.rg ?_
      refine TrL.op (ok_move rfl (fun _ => rfl)) rfl rfl ?_
      refine TrL.op (ok_neq rfl (fun _ => rfl) rfl (fun _ => rfl)) rfl rfl ?_
      refine TrL.fin ?_
      refine End.nxt ?_
      refine Tr.cnd rfl ?_ ?_
      · intro h7
        replace h7 := of_decide_eq_true h7
        refine Tr.seq ?_
        refine Tr.rg ?_
        refine TrL.op (ok_move rfl (fun _ => rfl)) rfl rfl ?_
        refine TrL.op (ok_assign rfl (fun _ => rfl)) rfl rfl ?_
        refine TrL.fin ?_
        refine End.nxt ?_
        refine Tr.ret ?_
        refine Rts.thn ?_
        exact Rts.res1 (fn := Tryz.f7) rfl (.i rfl (by unfold chkO; rw [if_neg (by omega), if_neg (by omega), if_pos h7]) <| .nil)
      · intro h7
        replace h7 := Classical.not_not.1 (of_decide_eq_false h7)
        refine Tr.skip ?_
        refine End.nxt ?_
        refine Tr.seq ?_
        refine Tr.rg ?_
        refine TrL.op (ok_fldO rfl (fun _ => rfl)) rfl rfl ?_
        refine TrL.op (ok_ldB rfl (fun _ => rfl) rfl) rfl rfl ?_
        refine TrL.op (ok_move rfl (fun _ => rfl)) rfl rfl ?_
        refine TrL.op (ok_call (fun hp => ct_rCheckList _ _) (.a rfl (fun _ => rfl) <| .a rfl (fun _ => rfl) <| .nil)) rfl rfl ?_
        refine TrL.op (ok_assign rfl (fun _ => rfl)) rfl rfl ?_
        refine TrL.fin ?_
        refine End.nxt ?_
        refine Tr.ret ?_
        exact Rts.res1 (fn := Tryz.f7) rfl (.i rfl (by unfold chkO; rw [if_neg (by omega), if_neg (by omega), if_neg (by omega)]) <| .nil)

set_option maxRecDepth 100000 in
theorem ct_RepeatN (z : Int) (n : Nat) (h0 : 0 < n) (hn : n ≤ 1000) : CtN Tryz.prog 55 [kRd (eL eI) [z], kI n] (fun t => kOsl t n) (cArr false 3 eI (List.replicate n z) n) := by
  refine CtN.mk Tryz.func55 rfl Tryz.ntmps55 rfl (fun w J => ?_)
  refine Tr.seq ?_
  refine Tr.rg ?_
  refine TrL.op (ok_assign rfl (fun _ => rfl)) rfl rfl ?_
  refine TrL.fin ?_
  refine End.nxt ?_
  refine Tr.seq ?_
  refine Tr.seq ?_
  refine Tr.rg ?_
  refine TrL.op (ok_move rfl (fun _ => rfl)) rfl rfl ?_
  refine TrL.op (ok_lss rfl (fun _ => rfl) rfl (fun _ => rfl)) rfl rfl ?_
  refine TrL.fin ?_
  refine End.nxt ?_
  refine Tr.cnd rfl ?_ ?_
  · intro h1
    replace h1 := of_decide_eq_true h1
    omega
  · intro h1
    replace h1 := Int.not_lt.1 (of_decide_eq_false h1)
    refine Tr.skip ?_
    refine End.nxt ?_
    refine Tr.seq ?_
    refine Tr.rg ?_
    refine TrL.op (ok_move rfl (fun _ => rfl)) rfl rfl ?_
    refine TrL.op (ok_lenJ rfl (fun _ => rfl)) rfl rfl ?_
    refine TrL.op (ok_convE ((1 : Nat) : Int) rfl (fun _ => rfl) (fun _ => by simp [IntKind.wrap_u64])) rfl rfl ?_
    refine TrL.op (ok_move rfl (fun _ => rfl)) rfl rfl ?_
    refine TrL.op (ok_convE (n : Int) rfl (fun _ => rfl) (fun _ => u64_nat (by omega))) rfl rfl ?_
    refine TrL.op (ok_call (fun hp => ct_bitsMul 1 n (by omega) (by omega)) (.a rfl (fun _ => rfl) <| .a rfl (fun _ => rfl) <| .nil)) rfl rfl ?_
    refine TrL.op (ok_move rfl (fun _ => rfl)) rfl rfl ?_
    refine TrL.op (ok_ext rfl (fun _ => rfl) rfl) rfl rfl ?_
    refine TrL.op (ok_ext rfl (fun _ => rfl) rfl) rfl rfl ?_
    refine TrL.op (ok_assign rfl (fun _ => rfl)) rfl rfl ?_
    refine TrL.op (ok_assign rfl (fun _ => rfl)) rfl rfl ?_
    refine TrL.fin ?_
    refine End.nxt ?_
    refine Tr.seq ?_
    refine Tr.seq ?_
    refine Tr.rg ?_
    refine TrL.op (ok_move rfl (fun _ => rfl)) rfl rfl ?_
    refine TrL.op (ok_gtr rfl (fun _ => rfl) rfl (fun _ => rfl)) rfl rfl ?_
    refine TrL.op (ok_move rfl (fun _ => rfl)) rfl rfl ?_
    refine TrL.gd rfl rfl rfl (ok_move rfl (fun _ => rfl)) rfl rfl ?_
    refine TrL.gd rfl rfl rfl (ok_gtr rfl id rfl (fun _ => rfl)) rfl rfl ?_
    refine TrL.op (ok_or rfl (fun _ => rfl) rfl (fun hp h => gdF2 ((fun _ => rfl) hp) h)) rfl rfl ?_
    refine TrL.fin ?_
    refine End.nxt ?_
    refine Tr.cnd rfl ?_ ?_
    · intro h4
      try simp only [decide_eq_true_eq, Bool.or_eq_true] at h4
      rw [Nat.one_mul] at h4
      omega
    · intro h4
      try simp only [decide_eq_false_iff_not, Bool.or_eq_false_iff, Int.not_lt] at h4
      refine Tr.skip ?_
      refine End.nxt ?_
      refine Tr.seq ?_
      refine Tr.rg ?_
      refine TrL.op (ok_move rfl (fun _ => rfl)) rfl rfl ?_
      refine TrL.op (ok_convE (n : Int) rfl (fun _ => rfl) (fun _ => by rw [Nat.one_mul]; exact W_in (by omega) (by omega))) rfl rfl ?_
      refine TrL.new (ok_makeN eI 30 rfl (fun _ => rfl) rfl (fun _ => rfl) rfl rfl rfl (fun _ => by omega)) rfl rfl rfl rfl ?_
      refine TrL.op (ok_assign rfl (fun _ => rfl)) rfl rfl ?_
      refine TrL.fin ?_
      refine End.nxt ?_
      refine Tr.seq ?_
      refine Tr.rg ?_
      refine TrL.op (ok_move rfl (fun _ => rfl)) rfl rfl ?_
      refine TrL.op (ok_move rfl (fun _ => rfl)) rfl rfl ?_
      refine TrL.cpJ (1) rfl rfl rfl (by omega) (by simp) (by simp; omega) rfl ?_
      refine TrL.op (ok_assign rfl (fun _ => rfl)) rfl rfl ?_
      refine TrL.fin ?_
      refine End.nxt ?_
      refine Tr.for (σ := Nat) [⟨7, true, _, _⟩] [] (fun m => [⟨8, true, [], kI (m : Int)⟩]) (fun m => [⟨30, [], cArr false 3 eI (rowN z n m) n⟩]) (fun m => 0 < m ∧ m ≤ n) (fun m => m = n) (fun m => n - m) (1) ⟨by omega, by omega⟩ (Ent.mk (.i rfl (by first | rfl | omega | (simp; done) | (simp; omega) | assumption) <| .k rfl rfl <| .nil) (.a (rowN_one h0) (by omega) <| .nil) rfl) ?_ ?_
      · rintro m ⟨hm0, hmn⟩
        refine Tr.norm (S' := [⟨8, true, _, _⟩, ⟨7, true, _, _⟩]) (M' := [⟨30, _, _⟩]) rfl rfl ?_
        refine Tr.seq ?_
        refine Tr.seq ?_
        refine Tr.rg ?_
        refine TrL.op (ok_move rfl (fun _ => rfl)) rfl rfl ?_
        refine TrL.op (ok_move rfl (fun _ => rfl)) rfl rfl ?_
        refine TrL.op (ok_lenO rfl (fun _ => rfl)) rfl rfl ?_
        refine TrL.op (ok_lss rfl (fun _ => rfl) rfl (fun _ => rfl)) rfl rfl ?_
        refine TrL.fin ?_
        refine End.nxt ?_
        refine Tr.cnd rfl ?_ ?_
        · intro h8
          replace h8 := of_decide_eq_true h8
          refine Tr.skip ?_
          refine End.nxt ?_
          refine Tr.blk ?_
          refine Tr.drawC 7 30 mixed (by kernel_rfl) ?_
          refine RunC.op (ok_move rfl (fun _ => rfl)) rfl rfl ?_
          refine RunC.opA (ok_move rfl (fun _ => rfl)) (by kernel_rfl) rfl rfl ?_
          refine RunC.opA (ok_move rfl (fun _ => rfl)) (by kernel_rfl) rfl rfl ?_
          refine RunC.opA (ok_slOl rfl (fun _ => rfl) rfl (fun _ => rfl) (fun _ => ⟨by omega, by rfl⟩)) (by kernel_rfl) rfl rfl ?_
          refine RunC.opA (ok_move rfl (fun _ => rfl)) (by kernel_rfl) rfl rfl ?_
          refine RunC.opA (ok_move rfl (fun _ => rfl)) (by kernel_rfl) rfl rfl ?_
          refine RunC.opA (ok_slOh rfl (fun _ => rfl) rfl (fun _ => rfl) (fun _ => ⟨by omega, by rfl⟩)) (by kernel_rfl) rfl rfl ?_
          refine RunC.z (cp_OO (min m (n - m)) rfl rfl (by omega) (by omega) (by omega) (by omega)) rfl rfl rfl rfl rfl ?_
          refine TrL.op (ok_add rfl (fun _ => rfl) rfl (fun _ => rfl) (fun _ => by omega)) rfl rfl ?_
          refine TrL.op (ok_assign rfl (fun _ => rfl)) rfl rfl ?_
          refine TrL.fin ?_
          refine End.blk ?_
          exact End.lp (m + min m (n - m)) ⟨by omega, by omega⟩ (by omega) (Ent.mk (.i rfl (by omega) <| .k rfl rfl <| .nil) (.a (rowN_cpy hmn rfl) (by first | rfl | omega | (simp; done) | (simp; omega) | assumption) <| .nil) rfl)
        · intro h8
          replace h8 := Int.not_lt.1 (of_decide_eq_false h8)
          refine Tr.exit ?_
          refine Exs.thn ?_
          refine Exs.thn ?_
          refine Exs.here ?_
          exact End.cut (m) (by omega) (Ent.mk (.i rfl (by first | rfl | omega | (simp; done) | (simp; omega) | assumption) <| .k rfl rfl <| .nil) (.a (by first | rfl | omega | (simp; done) | (simp; omega) | assumption) (by first | rfl | omega | (simp; done) | (simp; omega) | assumption) <| .nil) rfl)
      · rintro _ rfl
        refine Tr.norm (S' := [⟨8, true, _, _⟩, ⟨7, true, _, _⟩]) (M' := [⟨30, _, _⟩]) rfl rfl ?_
        refine Tr.seq ?_
        refine Tr.rg ?_
        refine TrL.op (ok_move rfl (fun _ => rfl)) rfl rfl ?_
        refine TrL.op (ok_assign rfl (fun _ => rfl)) rfl rfl ?_
        refine TrL.fin ?_
        refine End.nxt ?_
        refine Tr.ret ?_
        exact Rts.resN (fn := Tryz.f55) (u := 30) rfl rfl (arr_res rowN_all rfl) (osl_res rfl) inferInstance

set_option maxRecDepth 100000 in
theorem ct_isNaN (x : Int) : Ct Tryz.prog 101 [kI x] (kB false) := by
  refine Ct.mk Tryz.func101 rfl Tryz.ntmps101 rfl (fun w J => ?_)
  refine Tr.seq ?_
  refine Tr.rg ?_
  refine TrL.op (ok_assign rfl (fun _ => rfl)) rfl rfl ?_
  refine TrL.fin ?_
  refine End.nxt ?_
  refine Tr.seq ?_
  refine Tr.rg ?_
  refine TrL.op (ok_move rfl (fun _ => rfl)) rfl rfl ?_
  refine TrL.op (ok_move rfl (fun _ => rfl)) rfl rfl ?_
  refine TrL.op (ok_neq rfl (fun _ => rfl) rfl (fun _ => rfl)) rfl rfl ?_
  refine TrL.op (ok_assign rfl (fun _ => rfl)) rfl rfl ?_
  refine TrL.fin ?_
  refine End.nxt ?_
  refine Tr.ret ?_
  exact Rts.res1 (fn := Tryz.f101) rfl (.b rfl (by simp) <| .nil)

set_option maxRecDepth 100000 in
theorem ct_cmpC (x y : Int) : Ct Tryz.prog 74 [kI x, kI y] (kI (cmpI [x] [y])) := by
  refine Ct.mk Tryz.func74 rfl Tryz.ntmps74 rfl (fun w J => ?_)
  refine Tr.seq ?_
  refine Tr.rg ?_
  refine TrL.op (ok_assign rfl (fun _ => rfl)) rfl rfl ?_
  refine TrL.fin ?_
  refine End.nxt ?_
  refine Tr.seq ?_
  refine Tr.rg ?_
  refine TrL.op (ok_move rfl (fun _ => rfl)) rfl rfl ?_
  refine TrL.op (ok_call (fun hp => ct_isNaN _) (.a rfl (fun _ => rfl) <| .nil)) rfl rfl ?_
  refine TrL.op (ok_assign rfl (fun _ => rfl)) rfl rfl ?_
  refine TrL.fin ?_
  refine End.nxt ?_
  refine Tr.seq ?_
  refine Tr.rg ?_
  refine TrL.op (ok_move rfl (fun _ => rfl)) rfl rfl ?_
  refine TrL.op (ok_call (fun hp => ct_isNaN _) (.a rfl (fun _ => rfl) <| .nil)) rfl rfl ?_
  refine TrL.op (ok_assign rfl (fun _ => rfl)) rfl rfl ?_
  refine TrL.fin ?_
  refine End.nxt ?_
  refine Tr.seq ?_
  refine Tr.seq ?_
  refine Tr.rg ?_
  refine TrL.op (ok_move rfl (fun _ => rfl)) rfl rfl ?_
  refine TrL.fin ?_
  refine End.nxt ?_
  refine Tr.cnd rfl ?_ ?_
  · intro h3
    simp at h3
  · intro h3
    refine Tr.skip ?_
    refine End.nxt ?_
    refine Tr.seq ?_
    refine Tr.seq ?_
    refine Tr.rg ?_
    refine TrL.op (ok_move rfl (fun _ => rfl)) rfl rfl ?_
    refine TrL.fin ?_
    refine End.nxt ?_
    refine Tr.cnd rfl ?_ ?_
    · intro h7
      simp at h7
    · intro h7
      refine Tr.skip ?_
      refine End.nxt ?_
      refine Tr.seq ?_
      refine Tr.seq ?_
      refine Tr.rg ?_
      refine TrL.op (ok_move rfl (fun _ => rfl)) rfl rfl ?_
      refine TrL.op (ok_move rfl (fun _ => rfl)) rfl rfl ?_
      refine TrL.op (ok_lss rfl (fun _ => rfl) rfl (fun _ => rfl)) rfl rfl ?_
      refine TrL.fin ?_
      refine End.nxt ?_
      refine Tr.cnd rfl ?_ ?_
      · intro h9
        replace h9 := of_decide_eq_true h9
        refine Tr.seq ?_
        refine Tr.rg ?_
        refine TrL.op (ok_assign rfl (fun _ => rfl)) rfl rfl ?_
        refine TrL.fin ?_
        refine End.nxt ?_
        refine Tr.ret ?_
        refine Rts.thn ?_
        exact Rts.res1 (fn := Tryz.f74) rfl (.i rfl (by rw [cmp1, if_pos h9]) <| .nil)
      · intro h9
        replace h9 := Int.not_lt.1 (of_decide_eq_false h9)
        refine Tr.skip ?_
        refine End.nxt ?_
        refine Tr.seq ?_
        refine Tr.seq ?_
        refine Tr.rg ?_
        refine TrL.op (ok_move rfl (fun _ => rfl)) rfl rfl ?_
        refine TrL.op (ok_move rfl (fun _ => rfl)) rfl rfl ?_
        refine TrL.op (ok_gtr rfl (fun _ => rfl) rfl (fun _ => rfl)) rfl rfl ?_
        refine TrL.fin ?_
        refine End.nxt ?_
        refine Tr.cnd rfl ?_ ?_
        · intro h11
          replace h11 := of_decide_eq_true h11
          refine Tr.seq ?_
          refine Tr.rg ?_
          refine TrL.op (ok_assign rfl (fun _ => rfl)) rfl rfl ?_
          refine TrL.fin ?_
          refine End.nxt ?_
          refine Tr.ret ?_
          refine Rts.thn ?_
          exact Rts.res1 (fn := Tryz.f74) rfl (.i rfl (by rw [cmp1, if_neg (by omega), if_pos (by omega)]) <| .nil)
        · intro h11
          replace h11 := Int.not_lt.1 (of_decide_eq_false h11)
          refine Tr.skip ?_
          refine End.nxt ?_
          refine Tr.seq ?_
          refine Tr.rg ?_
          refine TrL.op (ok_assign rfl (fun _ => rfl)) rfl rfl ?_
          refine TrL.fin ?_
          refine End.nxt ?_
          refine Tr.ret ?_
          exact Rts.res1 (fn := Tryz.f74) rfl (.i rfl (by rw [cmp1, if_neg (by omega), if_neg (by omega)]) <| .nil)

set_option maxRecDepth 100000 in
theorem ct_SlCmp (a b : List Int) : Ct Tryz.prog 56 [kRd (eL eI) a, kRd (eL eI) b] (kI (cmpI a b)) := by
  refine Ct.mk Tryz.func56 rfl Tryz.ntmps56 rfl (fun w J => ?_)
  refine Tr.fact (s := 0) rfl (fun _ _ h => lenB h) (fun hb => ?_)
  refine Tr.seq ?_
  refine Tr.rg ?_
  refine TrL.op (ok_assign rfl (fun _ => rfl)) rfl rfl ?_
  refine TrL.fin ?_
  refine End.nxt ?_
  refine Tr.seq ?_
  refine Tr.seq ?_
  refine Tr.rg ?_
  refine TrL.op (ok_move rfl (fun _ => rfl)) rfl rfl ?_
  refine TrL.op (ok_lenJ rfl (fun _ => rfl)) rfl rfl ?_
  refine TrL.op (ok_move rfl (fun _ => rfl)) rfl rfl ?_
  refine TrL.fin ?_
  refine End.nxt ?_
  refine Tr.for1 (σ := Nat) [⟨0, true, _, _⟩, ⟨1, true, _, _⟩, ⟨9, true, _, _⟩, ⟨10, true, _, _⟩] [] (fun k => [⟨11, true, [], kI (k : Int)⟩]) (fun k => []) (fun k => k ≤ a.length ∧ ∀ i, i < k → i < b.length ∧ nth a i = nth b i) (fun k => ∀ i, i < a.length → i < b.length ∧ nth a i = nth b i) (fun k => a.length - k) (0) ⟨Nat.zero_le _, fun i h => absurd h (by omega)⟩ (Ent.mk (.i rfl (by first | rfl | omega | (simp; done) | (simp; omega) | assumption) <| .k rfl rfl <| .k rfl rfl <| .k rfl rfl <| .k rfl rfl <| .nil) (.nil) rfl) ?_ ?_
  · rintro k ⟨hk0, hR0⟩
    refine Tr.norm (S' := [⟨11, true, _, _⟩, ⟨0, true, _, _⟩, ⟨1, true, _, _⟩, ⟨9, true, _, _⟩, ⟨10, true, _, _⟩]) (M' := []) rfl rfl ?_
    refine Tr.seq ?_
    refine Tr.rg ?_
    refine TrL.op (ok_lss rfl (fun _ => rfl) rfl (fun _ => rfl)) rfl rfl ?_
    refine TrL.fin ?_
    refine End.nxt ?_
    refine Tr.seq ?_
    refine Tr.cnd rfl ?_ ?_
    · intro h2
      replace h2 := of_decide_eq_true h2
      refine Tr.skip ?_
      refine End.nxt ?_
      refine Tr.seq ?_
      refine Tr.blk ?_
      refine Tr.seq ?_
      refine Tr.rg ?_
      refine TrL.op (ok_move rfl (fun _ => rfl)) rfl rfl ?_
      first | refine TrL.op (ok_idxN rfl (fun _ => rfl) rfl (fun _ => rfl) rfl (fun _ => by omega)) rfl rfl ?_ | refine TrL.op (ok_idxP rfl (fun _ => rfl) rfl (fun _ => rfl) rfl (fun _ => by omega)) rfl rfl ?_
      refine TrL.op (ok_ldP rfl (fun _ => rfl) rfl) rfl rfl ?_
      refine TrL.op (ok_assign rfl (fun _ => rfl)) rfl rfl ?_
      refine TrL.op (ok_assign rfl (fun _ => rfl)) rfl rfl ?_
      refine TrL.fin ?_
      refine End.nxt ?_
      refine Tr.seq ?_
      refine Tr.seq ?_
      refine Tr.rg ?_
      refine TrL.op (ok_move rfl (fun _ => rfl)) rfl rfl ?_
      refine TrL.op (ok_move rfl (fun _ => rfl)) rfl rfl ?_
      refine TrL.op (ok_lenJ rfl (fun _ => rfl)) rfl rfl ?_
      refine TrL.op (ok_geq rfl (fun _ => rfl) rfl (fun _ => rfl)) rfl rfl ?_
      refine TrL.fin ?_
      refine End.nxt ?_
      refine Tr.cnd rfl ?_ ?_
      · intro h4
        replace h4 := of_decide_eq_true h4
        refine Tr.seq ?_
        refine Tr.rg ?_
        refine TrL.op (ok_assign rfl (fun _ => rfl)) rfl rfl ?_
        refine TrL.fin ?_
        refine End.nxt ?_
        refine Tr.ret ?_
        refine Rts.thn ?_
        refine Rts.out ?_
        refine Rts.thn ?_
        refine Rts.thn ?_
        refine Rts.out ?_
        refine Rts.thn ?_
        refine Rts.thn ?_
        exact Rts.res1 (fn := Tryz.f56) rfl (.i rfl (by rw [cmpI_end (fun i h1 h2 => (hR0 i (by omega)).2), if_neg (by omega), if_pos (by omega)]) <| .nil)
      · intro h4
        replace h4 := Int.not_le.1 (of_decide_eq_false h4)
        refine Tr.skip ?_
        refine End.nxt ?_
        refine Tr.seq ?_
        refine Tr.rg ?_
        refine TrL.op (ok_move rfl (fun _ => rfl)) rfl rfl ?_
        refine TrL.op (ok_move rfl (fun _ => rfl)) rfl rfl ?_
        first | refine TrL.op (ok_idxN rfl (fun _ => rfl) rfl (fun _ => rfl) rfl (fun _ => by omega)) rfl rfl ?_ | refine TrL.op (ok_idxP rfl (fun _ => rfl) rfl (fun _ => rfl) rfl (fun _ => by omega)) rfl rfl ?_
        refine TrL.op (ok_ldP rfl (fun _ => rfl) rfl) rfl rfl ?_
        refine TrL.op (ok_assign rfl (fun _ => rfl)) rfl rfl ?_
        refine TrL.fin ?_
        refine End.nxt ?_
        refine Tr.seq ?_
        refine Tr.rg ?_
        refine TrL.op (ok_move rfl (fun _ => rfl)) rfl rfl ?_
        refine TrL.op (ok_move rfl (fun _ => rfl)) rfl rfl ?_
        refine TrL.op (ok_call (fun hp => ct_cmpC _ _) (.a rfl (fun _ => rfl) <| .a rfl (fun _ => rfl) <| .nil)) rfl rfl ?_
        refine TrL.op (ok_assign rfl (fun _ => rfl)) rfl rfl ?_
        refine TrL.fin ?_
        refine End.nxt ?_
        refine Tr.seq ?_
        refine Tr.rg ?_
        refine TrL.op (ok_move rfl (fun _ => rfl)) rfl rfl ?_
        refine TrL.op (ok_neq rfl (fun _ => rfl) rfl (fun _ => rfl)) rfl rfl ?_
        refine TrL.fin ?_
        refine End.nxt ?_
        refine Tr.cnd rfl ?_ ?_
        · intro h8
          replace h8 := of_decide_eq_true h8
          refine Tr.seq ?_
          refine Tr.rg ?_
          refine TrL.op (ok_move rfl (fun _ => rfl)) rfl rfl ?_
          refine TrL.op (ok_assign rfl (fun _ => rfl)) rfl rfl ?_
          refine TrL.fin ?_
          refine End.nxt ?_
          refine Tr.ret ?_
          refine Rts.out ?_
          refine Rts.thn ?_
          refine Rts.thn ?_
          refine Rts.out ?_
          refine Rts.thn ?_
          refine Rts.thn ?_
          exact Rts.res1 (fn := Tryz.f56) rfl (.i rfl (by rw [cmpI_at (k := k) (by omega) (by omega) (fun i hi => (hR0 i hi).2) (fun e => h8 (by rw [e, cmpI_self])), cmp1]; exact cmp_sw (fun e => h8 (by rw [e, cmpI_self]))) <| .nil)
        · intro h8
          replace h8 := Classical.not_not.1 (of_decide_eq_false h8)
          refine Tr.skip ?_
          refine End.blk ?_
          refine End.nxt ?_
          refine Tr.rg ?_
          refine TrL.op (ok_add rfl (fun _ => rfl) rfl (fun _ => rfl) (fun _ => by omega)) rfl rfl ?_
          refine TrL.op (ok_move rfl (fun _ => rfl)) rfl rfl ?_
          refine TrL.fin ?_
          exact End.lp (k + 1) ⟨by omega, all_succ hR0 ⟨by omega, Classical.byContradiction fun hh => cmp_ne hh h8⟩⟩ (by omega) (Ent.mk (.i rfl (by first | rfl | omega | (simp; done) | (simp; omega) | assumption) <| .k rfl rfl <| .k rfl rfl <| .k rfl rfl <| .k rfl rfl <| .nil) (.nil) rfl)
    · intro h2
      replace h2 := Int.not_lt.1 (of_decide_eq_false h2)
      refine Tr.exit ?_
      refine Exs.thn ?_
      refine Exs.thn ?_
      refine Exs.here ?_
      exact End.cut (k) (fun i hi => hR0 i (by omega)) (Ent.mk (.i rfl (by first | rfl | omega | (simp; done) | (simp; omega) | assumption) <| .k rfl rfl <| .k rfl rfl <| .k rfl rfl <| .k rfl rfl <| .nil) (.nil) rfl)
  · intro k hE0
    refine End.norm (S' := [⟨11, true, _, _⟩, ⟨0, true, _, _⟩, ⟨1, true, _, _⟩, ⟨9, true, _, _⟩, ⟨10, true, _, _⟩]) (M' := []) rfl rfl ?_
    refine End.nxt ?_
    refine Tr.seq ?_
    refine Tr.seq ?_
    refine Tr.rg ?_
    refine TrL.op (ok_move rfl (fun _ => rfl)) rfl rfl ?_
    refine TrL.op (ok_lenJ rfl (fun _ => rfl)) rfl rfl ?_
    refine TrL.op (ok_move rfl (fun _ => rfl)) rfl rfl ?_
    refine TrL.op (ok_lenJ rfl (fun _ => rfl)) rfl rfl ?_
    refine TrL.op (ok_lss rfl (fun _ => rfl) rfl (fun _ => rfl)) rfl rfl ?_
    refine TrL.fin ?_
    refine End.nxt ?_
    refine Tr.cnd rfl ?_ ?_
    · intro h11
      replace h11 := of_decide_eq_true h11
      refine Tr.seq ?_
      refine Tr.rg ?_
      refine TrL.op (ok_assign rfl (fun _ => rfl)) rfl rfl ?_
      refine TrL.fin ?_
      refine End.nxt ?_
      refine Tr.ret ?_
      refine Rts.thn ?_
      exact Rts.res1 (fn := Tryz.f56) rfl (.i rfl (by rw [cmpI_end (fun i h1 h2 => (hE0 i (by omega)).2), if_pos (by omega)]) <| .nil)
    · intro h11
      replace h11 := Int.not_lt.1 (of_decide_eq_false h11)
      refine Tr.skip ?_
      refine End.nxt ?_
      refine Tr.seq ?_
      refine Tr.rg ?_
      refine TrL.op (ok_assign rfl (fun _ => rfl)) rfl rfl ?_
      refine TrL.fin ?_
      refine End.nxt ?_
      refine Tr.ret ?_
      exact Rts.res1 (fn := Tryz.f56) rfl (.i rfl (by rw [cmpI_end (fun i h1 h2 => (hE0 i (by omega)).2), if_neg (by omega), if_neg (by (have : ∀ i, i < a.length → i < b.length := fun i hi => (hE0 i hi).1); exact le_of_all this)]) <| .nil)

set_option maxRecDepth 100000 in
theorem ct_ocmp (a b : Ori) : Ct Tryz.prog 34 [kRd eO a, kRd eO b] (kI (cmpO a b)) := by
  refine Ct.mk Tryz.func34 rfl Tryz.ntmps34 rfl (fun w J => ?_)
  refine Tr.seq ?_
  refine Tr.rg ?_
  refine TrL.new (ok_box 2 rfl (fun _ => rfl) rfl) rfl rfl rfl rfl ?_
  refine TrL.new (ok_box 3 rfl (fun _ => rfl) rfl) rfl rfl rfl rfl ?_
  refine TrL.op (ok_assign rfl (fun _ => rfl)) rfl rfl ?_
  refine TrL.fin ?_
  refine End.nxt ?_
  refine Tr.seq ?_
  refine Tr.seq ?_
  refine Tr.rg ?_
  refine TrL.op (ok_fldO rfl (fun _ => rfl)) rfl rfl ?_
  refine TrL.op (ok_ldB rfl (fun _ => rfl) rfl) rfl rfl ?_
  refine TrL.op (ok_fldO rfl (fun _ => rfl)) rfl rfl ?_
  refine TrL.op (ok_ldB rfl (fun _ => rfl) rfl) rfl rfl ?_
  refine TrL.op (ok_call (fun hp => ct_SlCmp _ _) (.a rfl (fun _ => rfl) <| .a rfl (fun _ => rfl) <| .nil)) rfl rfl ?_
  refine TrL.op (ok_assign rfl (fun _ => rfl)) rfl rfl ?_
  refine TrL.fin ?_
  refine End.nxt ?_
  refine Tr.seq ?_
  refine Tr.rg ?_
  refine TrL.op (ok_move rfl (fun _ => rfl)) rfl rfl ?_
  refine TrL.op (ok_neq rfl (fun _ => rfl) rfl (fun _ => rfl)) rfl rfl ?_
  refine TrL.fin ?_
  refine End.nxt ?_
  refine Tr.cnd rfl ?_ ?_
  · intro h2
    replace h2 := of_decide_eq_true h2
    refine Tr.seq ?_
    refine Tr.rg ?_
    refine TrL.op (ok_move rfl (fun _ => rfl)) rfl rfl ?_
    refine TrL.op (ok_assign rfl (fun _ => rfl)) rfl rfl ?_
    refine TrL.fin ?_
    refine End.nxt ?_
    refine Tr.ret ?_
    refine Rts.thn ?_
    exact Rts.res1 (fn := Tryz.f34) rfl (.i rfl (by unfold cmpO; rw [if_pos h2]) <| .nil)
  · intro h2
    replace h2 := Classical.not_not.1 (of_decide_eq_false h2)
    refine Tr.skip ?_
    refine End.nxt ?_
    refine Tr.seq ?_
    refine Tr.rg ?_
    refine TrL.op (ok_fldO rfl (fun _ => rfl)) rfl rfl ?_
    refine TrL.op (ok_ldB rfl (fun _ => rfl) rfl) rfl rfl ?_
    refine TrL.op (ok_fldO rfl (fun _ => rfl)) rfl rfl ?_
    refine TrL.op (ok_ldB rfl (fun _ => rfl) rfl) rfl rfl ?_
    refine TrL.op (ok_call (fun hp => ct_SlCmp _ _) (.a rfl (fun _ => rfl) <| .a rfl (fun _ => rfl) <| .nil)) rfl rfl ?_
    refine TrL.op (ok_assign rfl (fun _ => rfl)) rfl rfl ?_
    refine TrL.fin ?_
    refine End.nxt ?_
    refine Tr.ret ?_
    exact Rts.res1 (fn := Tryz.f34) rfl (.i rfl (by unfold cmpO; rw [if_neg (by omega)]) <| .nil)

set_option maxRecDepth 100000 in
theorem ct_cloneN (p : List Int) (hn : p.length ≤ 1000000) (h0 : 0 < p.length) : CtN Tryz.prog 40 [kRd (eL eI) p] (fun t => kOsl t p.length) (cArr false 3 eI p p.length) := by
  refine CtN.mk Tryz.func40 rfl Tryz.ntmps40 rfl (fun w J => ?_)
  refine Tr.seq ?_
  refine Tr.rg ?_
  refine TrL.op (ok_assign rfl (fun _ => rfl)) rfl rfl ?_
  refine TrL.fin ?_
  refine End.nxt ?_
  refine Tr.seq ?_
  refine Tr.seq ?_
  refine Tr.rg ?_
  refine TrL.op (ok_move rfl (fun _ => rfl)) rfl rfl ?_
  refine TrL.op (ok_eqlNilJ rfl (fun _ => rfl)) rfl rfl ?_
  refine TrL.fin ?_
  refine End.nxt ?_
  refine Tr.exB (s := 4) rfl (fun b1 q1 => ?_)
  refine Tr.cnd rfl ?_ ?_
  · intro h1
    exact absurd (congrArg List.length (q1 h1)) (by simp only [List.length_nil]; omega)
  · intro h1
    refine Tr.skip ?_
    refine End.nxt ?_
    refine Tr.seq ?_
    refine Tr.rg ?_
    refine TrL.new (ok_bsl0 eI 5) rfl rfl rfl rfl ?_
    refine TrL.op (ok_move rfl (fun _ => rfl)) rfl rfl ?_
    refine TrL.app rfl rfl rfl rfl rfl rfl rfl rfl (by first | omega | (simp only [List.length_cons, List.length_nil]; omega)) (by first | omega | (simp only [List.length_cons, List.length_nil]; omega)) ?_
    refine TrL.norm (S' := [⟨_, _, _, _⟩, ⟨_, _, _, _⟩, ⟨_, _, _, _⟩, ⟨_, _, _, _⟩, ⟨_, _, _, _⟩, ⟨_, _, _, _⟩, ⟨_, _, _, _⟩, ⟨_, _, _, _⟩]) rfl rfl ?_
    refine TrL.op (ok_assign rfl (fun _ => rfl)) rfl rfl ?_
    refine TrL.fin ?_
    refine End.nxt ?_
    refine Tr.ret ?_
    exact Rts.resN (fn := Tryz.f40) (u := 5) rfl rfl (arr_res (by first | rfl | omega | (simp; done) | (simp; omega) | assumption) (by first | rfl | omega | (simp; done) | (simp; omega) | assumption)) (osl_res (by first | rfl | omega | (simp; done) | (simp; omega) | assumption)) inferInstance

end Go.Fl

/- The search, one neighbour after another; errors of lists of origamis. Plain Lean, no program in sight. -/
namespace Go.Fl
/-- The list, when k squares have been looked at, and j neighbours of the next. -/
def srch (o : Ori) (F : List Int) (s : Int) (k j : Nat) : List Int := addL F (bfsTo o F s k) ((stp o (nth (bfsTo o F s k) k)).take j)
section
variable {o : Ori} {F : List Int} {s : Int} {k j : Nat}
theorem srch_two (h : k < (bfsTo o F s k).length) : srch o F s k 2 = bfsTo o F s (k + 1) := by rw [bfsTo, if_pos h]; rfl
theorem srch_succ (hj : j < 2) : srch o F s k (j + 1) = addN F (srch o F s k j) (nth (stp o (nth (bfsTo o F s k) k)) j) := by
  unfold srch
  rw [take_succ_nth (by simpa [stp] using hj), addL_snoc]
theorem srch_new (hj : j < 2) (h : nth (stp o (nth (bfsTo o F s k) k)) j ∉ F ++ srch o F s k j) : srch o F s k (j + 1) = srch o F s k j ++ [nth (stp o (nth (bfsTo o F s k) k)) j] := by rw [srch_succ hj, addN_new h]
theorem srch_in (hj : j < 2) (h : nth (stp o (nth (bfsTo o F s k) k)) j ∈ F ++ srch o F s k j) : srch o F s k (j + 1) = srch o F s k j := by rw [srch_succ hj, addN_in h]
theorem srch_x (v : Valid o) (h0 : Good o.1.length (F ++ [s])) (h : k < (bfsTo o F s k).length) : Sq o.1.length (nth (bfsTo o F s k) k) := (bfsTo_good v h0 k).rng _ (List.mem_append_right _ (nth_mem h))
theorem srch_y (v : Valid o) (h0 : Good o.1.length (F ++ [s])) (h : k < (bfsTo o F s k).length) (hj : j < 2) : Sq o.1.length (nth (stp o (nth (bfsTo o F s k) k)) j) := stp_nth_sq v (srch_x v h0 h) hj
theorem srch_good (v : Valid o) (h0 : Good o.1.length (F ++ [s])) (h : k < (bfsTo o F s k).length) : Good o.1.length (F ++ srch o F s k j) :=
  (bfsTo_good v h0 k).addL fun y hy => stp_sq v (srch_x v h0 h) y (List.mem_of_mem_take hy)
theorem srch_len (v : Valid o) (h0 : Good o.1.length (F ++ [s])) (h : k < (bfsTo o F s k).length) : F.length + (srch o F s k j).length ≤ o.1.length := by
  have := (srch_good (j := j) v h0 h).len
  rwa [List.length_append] at this
end
def connE (l : List Ori) : Int := orE (fstE (l.map chkO)) (fstE (l.map splE))
theorem connE_one {o : Ori} : connE [o] = chk1 o := by
  unfold connE chk1
  simp only [List.map_cons, List.map_nil, fstE]
  unfold orE
  by_cases h1 : chkO o = 0
  · simp [h1]; intro h; exact h.symm
  · simp [h1]
def chk2 (a b : Ori) : Int := orE (chkO a) (orE (chkO b) (if 1 < (comps a a.1.length).length ∨ 1 < (comps b b.1.length).length then 16 else 0))
theorem splE_pos {o : Ori} (h : 1 < (comps o o.1.length).length) : splE o = 16 := if_pos h
theorem splE_zero {o : Ori} (h : ¬ 1 < (comps o o.1.length).length) : splE o = 0 := if_neg h
/-! ### The label, up to a square -/
def bst (o : Ori) (k : Nat) : Ori := if k = 0 then ([], []) else candO o (lblS o k)
def byL (o : Ori) (k : Nat) : List Int := if k = 0 then [] else numL o (lblS o k)
theorem bst_next {o : Ori} {k : Nat} (h : k = 0 ∨ cmpO (candO o k) (bst o k) < 0) : bst o (k + 1) = candO o k ∧ byL o (k + 1) = numL o k := by
  have e : lblS o (k + 1) = k := by
    by_cases h0 : k = 0
    · subst h0; exact lblS_one
    · unfold bst at h; rw [if_neg h0] at h
      exact lblS_pos (h.resolve_left h0)
  unfold bst byL
  rw [if_neg (by omega), if_neg (by omega), e]; exact ⟨rfl, rfl⟩
theorem bst_same {o : Ori} {k : Nat} (h0 : k ≠ 0) (h : ¬ cmpO (candO o k) (bst o k) < 0) : bst o (k + 1) = bst o k ∧ byL o (k + 1) = byL o k := by
  have e : lblS o (k + 1) = lblS o k := by
    unfold bst at h; rw [if_neg h0] at h
    exact lblS_neg h
  unfold bst byL
  simp only [if_neg h0, if_neg (show ¬ (k + 1 = 0) by omega), e, and_self]
theorem byL_empty {o : Ori} {k : Nat} (h : 0 < o.1.length) : (byL o k).isEmpty = decide (k = 0) := by
  unfold byL
  by_cases h0 : k = 0
  · rw [if_pos h0, decide_eq_true h0]; rfl
  · rw [if_neg h0, decide_eq_false h0]
    cases hh : numL o (lblS o k) with
    | nil => have := congrArg List.length hh; rw [numL_len] at this; simp only [List.length_nil] at this; omega
    | cons _ _ => rfl
theorem byL_ne {o : Ori} {k : Nat} (h : 0 < o.1.length) : numL o k ≠ [] := fun hh => by
  have := congrArg List.length hh; rw [numL_len] at this; simp only [List.length_nil] at this; omega
theorem bst_end {o : Ori} (h : 0 < o.1.length) : bst o o.1.length = lblO o ∧ byL o o.1.length = lblF o := by
  unfold bst byL lblO lblF candO
  rw [if_neg (by omega), if_neg (by omega)]; exact ⟨rfl, rfl⟩
end Go.Fl

/- The library's sorts as calls that change one block of the caller's own. No program in sight. -/
namespace Go.Fl
open Go Go.RowKit Go.Proofs Go.Shelf Go.Sort

theorem holds_arr {w : World} {b : Nat} {cs : Array Value} {ty : TypeId} {xs : List Int} {α : Type} [Inhabited α] {enc : α → Value} {d : Array α} (hb : w.heap[b]? = some (.cells cs ty (0, 0))) (hd : d.toList.map enc = xs.map (Value.int .i64))
    (hc : ∀ (i : Nat) x, xs[i]? = some x → cs[i]? = some (.int .i64 x)) : Holds enc w b 0 d := by
  intro j hj
  have h1 : (d.toList.map enc)[j]? = some (enc d[j]!) := by simp [hj]
  rw [hd, List.getElem?_map] at h1
  cases hx : xs[j]? with
  | none => rw [hx] at h1; cases h1
  | some x =>
    rw [hx] at h1
    simp only [Option.map_some, Option.some.injEq] at h1
    refine ⟨?_, ?_⟩
    · rw [← h1]
      simp only [World.cell?, hb, Nat.zero_add]
      simpa using hc j x hx
    · simp [World.frozen?, hb]
theorem but_sorted {α : Type} [Inhabited α] {enc : α → Value} {w : World} {b n cap : Nat} {d : Array α} {os : Array Obj} : But (.blk b cap) w (grow (putRow enc (Sort.ahead w n) b 0 d) os) := by
  refine ⟨rfl, rfl, rfl, by simp [grow], fun k hk hne => ?_⟩
  rw [heap_grow_old _ _ (by simpa using hk)]
  have : b ≠ k := fun e => hne cap (by rw [e])
  simp [putRow, mapBlock, Sort.ahead, Array.getElem?_modify, this]
theorem heap_sorted {α : Type} [Inhabited α] {enc : α → Value} {w : World} {g n : Nat} {os : Array Obj} {cur : Array Value} {e : TypeId} {fr : Nat × Nat} (d : Array α) (hb : w.heap[g]? = some (.cells cur e fr)) :
    (grow (putRow enc (Sort.ahead w n) g 0 d) os).heap[g]? = some (.cells (putCells enc 0 d cur) e fr) := by
  have hg : g < w.heap.size := (Array.getElem?_eq_some_iff.1 hb).1
  rw [heap_grow_old _ _ (by simpa using hg)]
  simp [putRow, mapBlock, Sort.ahead, Array.getElem?_modify, hb, onCells]
theorem im_but {J : JV} {b cap : Nat} {w w' : World} (him : Im J w) (hn : ∀ o, J b o = none) (h : But (.blk b cap) w w') : Im J w' := fun b' o v hv => by
  have h1 := him b' o v hv
  have hlt := World.block_lt_of_cell? _ _ h1
  rw [World.cell?_of_block (w := w) (h.block b' hlt (fun cap hb => by cases hb; rw [hn o] at hv; cases hv))]
  exact h1
/-- What a sort leaves behind, at a row of integers. -/
theorem ctb_of_sort {P : Program} {f : FuncId} {k0 : Know} {ks : List Know} {z : Bool} {ty : TypeId} {xs ys : List Int} {len : Nat} (_hlen : 0 < len) (hl : ys.length = xs.length)
    (hk0 : ∀ g v, k0 g v → kOsl 0 len g v)
    (h : ∀ (b cap : Nat) (w : World) (J : JV) (vs : List Value) (cs : Array Value), Im J w → w.heap[b]? = some (.cells cs ty (0, 0)) → xs.length = len → (∀ (i : Nat) x, xs[i]? = some x → cs[i]? = some (.int .i64 x)) → allK ⟨J, noM⟩ ks vs →
      Calls P f (.slice (some ⟨b, 0, none⟩) len cap :: vs).toArray w fun e w' => e = .returned (.tuple #[]) ∧ But (.blk b cap) w w' ∧ ∃ cs' : Array Value, w'.heap[b]? = some (.cells cs' ty (0, 0)) ∧ cs'.size = cs.size ∧ ∀ (i : Nat) x, ys[i]? = some x → cs'[i]? = some (.int .i64 x)) :
    CtB P f k0 ks (cArr z ty eI xs len) (cArr z ty eI ys len) (kDet (.tuple #[])) := by
  intro w J b cap him hn hb hct v vs hv hvs
  obtain ⟨h0, hz, cs, h1, h2, h3, h4, h5⟩ := hct
  have hv' := hk0 _ _ hv
  rcases hv' with ⟨hm, _⟩ | ⟨b', cap', hm, rfl⟩
  · simp [g1] at hm
  · simp only [g1, if_true, Option.some.injEq, Bk.blk.injEq] at hm
    obtain ⟨rfl, rfl⟩ := hm
    have hcs : ∀ (i : Nat) x, xs[i]? = some x → cs[i]? = some (.int .i64 x) := fun i x hx => by
      obtain ⟨ds, q1, q2⟩ := h5 i x hx
      have q1 : ds = [.int .i64 x] := q1
      subst q1
      have := q2 0 _ rfl
      simpa [eI, eInt] using this
    refine (h b cap w J vs cs him h1 h0 hcs hvs).mono fun e w' hh => ?_
    obtain ⟨rfl, hbut, cs', q1, q2, q3⟩ := hh
    refine ⟨_, J, rfl, hbut, JV.le_refl _, fun _ _ _ => rfl, im_but him hn hbut, rfl, ?_⟩
    refine ⟨by omega, hz, cs', q1, by rw [q2, h2], h3, h4, fun i x hx => ⟨[.int .i64 x], rfl, fun j v hj => ?_⟩⟩
    rcases j with _ | j
    · simp at hj; subst hj; simpa [eI, eInt] using q3 i x hx
    · simp at hj
theorem ctb_sort {P : Program} {ρ : Ren} (Ly : Lays.n189 P ρ) {z : Bool} {ty : TypeId} {xs : List Int} {len : Nat} (hlen : 0 < len) (hm : len ≤ 1000000) : CtB P (ρ.f 189) (kOsl 0 len) [] (cArr z ty eI xs len) (cArr z ty eI (xs.mergeSort fun x y => decide (x ≤ y)) len) (kDet (.tuple #[])) :=
  ctb_of_sort hlen (by simp) (fun _ _ h => h) fun b cap w J vs cs _ h1 h0 hcs hvs => by
    cases vs with
    | cons v vs => exact hvs.elim
    | nil =>
      subst h0
      have hH : Holds (Value.int .i64) w b 0 xs.toArray := holds_arr h1 (by simp) hcs
      have hblk : b < w.heap.size := (Array.getElem?_eq_some_iff.1 h1).1
      have hle : xs.length ≤ cs.size := by
        have h2 := List.getElem?_eq_getElem (l := xs) (i := xs.length - 1) (by omega)
        have := (Array.getElem?_eq_some_iff.1 (hcs _ _ h2)).1
        omega
      refine (Any.slices_Sort_int Ly b 0 cap xs w hH hblk (by omega)).mono fun e w' ⟨he, n, os, hw⟩ => ?_
      subst hw
      refine ⟨he, but_sorted, _, heap_sorted _ h1, by simp [putCells], fun i x hx => ?_⟩
      have hi := (List.getElem?_eq_some_iff.1 hx).1
      rw [List.length_mergeSort] at hi
      have hx2 := List.getElem?_eq_some_iff.1 hx
      simp only [putCells, Array.getElem?_mapIdx]
      rw [Array.getElem?_eq_getElem (show i < cs.size by omega)]
      simp [hi, hx2.2]
/-- slices.SortFunc at integers of a range that is named by α. -/
theorem ctb_sortF {P : Program} {ρ : Ren} (L : SlLaysF.n6 P ρ) {α : Type} [Inhabited α] (val : α → Int) (cf : α → α → Int) (hO : SWO (ltOf cf)) (g : Nat) (eg : ∀ args w, (callFunc g args).run P w = .ok (.enter g args) w)
    (hcmp : ∀ (x y : α) (w : World), Calls P g #[.int .i64 (val x), .int .i64 (val y)] w fun e w' => e = .returned (.int .i64 (cf x y)) ∧ ∃ q os', w' = grow (w.drewN q) os')
    {z : Bool} {ty : TypeId} (d : List α) {ys : List Int} {len : Nat} (hlen : 0 < len) (hm : len ≤ 1000000) (hl : d.length = len) (hys : ∀ d' : List α, d'.Perm d → d'.Pairwise (fun a b => ltOf cf b a = false) → d'.map val = ys) :
    CtB P (ρ.f 6) (kOsl 0 len) [kDet (.func (.func g) #[] #[])] (cArr z ty eI (d.map val) len) (cArr z ty eI ys len) (kDet (.tuple #[])) := by
  have hyl : ys.length = d.length := by
    rw [← hys (d.mergeSort fun a b => !ltOf cf b a) (List.mergeSort_perm _ _) ?_]
    · simp
    · have := List.pairwise_mergeSort (le := fun a b => !ltOf cf b a) (fun a b c h1 h2 => by simp only [Bool.not_eq_true'] at *; exact hO.ntrans _ _ _ h2 h1) (fun a b => by
        cases h : ltOf cf b a with
        | false => rfl
        | true =>
          cases h2 : ltOf cf a b with
          | false => simp
          | true => have := hO.trans _ _ _ h h2; rw [hO.irrefl] at this; cases this) d
      exact this.imp fun h => by simpa using h
  refine ctb_of_sort hlen (by rw [List.length_map]; exact hyl) (fun _ _ h => h) fun b cap w J vs cs _ h1 h0 hcs hvs => ?_
  match vs, hvs with
  | [v], hvs =>
    obtain rfl := hvs.1
    rw [List.length_map] at h0
    have hH : Holds (fun x => Value.int .i64 (val x)) w b 0 d.toArray := holds_arr h1 (by simp [List.map_map, Function.comp_def]) hcs
    have hblk : b < w.heap.size := (Array.getElem?_eq_some_iff.1 h1).1
    have hle : d.length ≤ cs.size := by
      have h2 := List.getElem?_eq_getElem (l := d.map val) (i := d.length - 1) (by rw [List.length_map]; omega)
      have := (Array.getElem?_eq_some_iff.1 (hcs _ _ h2)).1
      omega
    have hcl : CmpLays1 P g #[] (fun x => Value.int .i64 (val x)) cf b 0 d.toArray.size w := fun m os dk _ x y => by
      simpa using hcmp x y (sortWorld _ w b 0 m dk os)
    have hc := Any.slices_SortFunc L (fun x => Value.int .i64 (val x)) (fun _ => rfl) cf hO g #[] b 0 cap d.toArray w eg hcl hH hblk (by simp; omega)
    rw [show d.toArray.size = len by simp [hl]] at hc
    refine hc.mono fun e w' ⟨he, d', n, os, hp, hs, hw⟩ => ?_
    subst hw
    obtain ⟨hp1, hp2, hp3⟩ := hp
    have hd' : d'.size = len := by rw [hp1]; simp [hl]
    have hperm : d'.toList.Perm d := by
      have e1 : d'.extract 0 len = d' := by rw [← hd']; simp
      have e2 : d.toArray.extract 0 len = d.toArray := by rw [show len = d.toArray.size by simp [hl]]; simp
      rw [e1, e2] at hp3; simpa using hp3
    have hpw : d'.toList.Pairwise (fun a b => ltOf cf b a = false) := by
      rw [List.pairwise_iff_getElem]
      intro i j hi hj hij
      have hi' : i < d'.size := by simpa using hi
      have hj' : j < d'.size := by simpa using hj
      have := hs i j (Nat.zero_le _) hij (by omega)
      rw [getElem!_pos d' i hi', getElem!_pos d' j hj'] at this
      simpa using this
    have hmap := hys _ hperm hpw
    refine ⟨he, but_sorted, _, heap_sorted _ h1, by simp [putCells], fun i x hx => ?_⟩
    have hi := (List.getElem?_eq_some_iff.1 hx).1
    rw [← hmap, List.getElem?_map] at hx
    have hid : i < d'.size := by omega
    simp only [putCells, Array.getElem?_mapIdx]
    rw [Array.getElem?_eq_getElem (show i < cs.size by omega)]
    simp only [Array.getElem?_toList, Array.getElem?_eq_getElem hid, Option.map_some, Option.some.injEq] at hx
    simp [hid, hx]
  | [], hvs => exact hvs.elim
  | _ :: _ :: _, hvs => exact hvs.2.elim
end Go.Fl

/-
  DERIVED: THE SHELF's CONTRACTS AT THIS DUMP, IN PLAIN WORDS (tools/lay-plain.mjs out of 'YtlkipjphohdilaaGreatDoorSrtRaw.lean', which tools/lay-shelf.mjs wrote): THE SAME DECLARATIONS UNDER THE SAME NAMES: 'import', 'namespace', 'open', 'def', 'theorem' AND NOTHING ELSE: no command of the shelf's: FOR A HAND-IN. Each laying: the table of numbers ('.._ren') and one theorem, a field a fact of the dump's own or the kernel's comparison; each contract: ONE APPLICATION.
-/
namespace Go.Proofs
open Go.Shelf
def Tryz.lays189_ren : Go.Shelf.Ren := ⟨fun | 189 => 72 | 125 => 58 | 257 => 98 | 128 => 83 | 129 => 84 | 294 => 118 | 295 => 119 | 296 => 120 | 297 => 121 | 298 => 122 | 299 => 123 | 216 => 124 | 300 => 125 | 301 => 126 | 328 => 132 | 329 => 103 | 330 => 104 | 331 => 133 | 332 => 134 | 215 => 101 | 343 => 135 | n => n, fun | 28 => 22 | 3 => 3 | 46 => 91 | 0 => 0 | 51 => 115 | 53 => 117 | 4 => 4 | 183 => 109 | 182 => 108 | 131 => 81 | 5 => 5 | 9 => 9 | 218 => 141 | 222 => 145 | 228 => 160 | 229 => 161 | n => n, fun | n => n⟩
theorem Tryz.lays189 : Go.Proofs.Lays.n189 Tryz.prog Tryz.lays189_ren := {
  mixed := by kernel_rfl
  f125 := Tryz.func58.trans (congrArg some (by kernel_rfl))
  f128 := Tryz.func83.trans (congrArg some (by kernel_rfl))
  f129 := Tryz.func84.trans (congrArg some (by kernel_rfl))
  f189 := Tryz.func72.trans (congrArg some (by kernel_rfl))
  f215 := Tryz.func101.trans (congrArg some (by kernel_rfl))
  f216 := Tryz.func124.trans (congrArg some (by kernel_rfl))
  f257 := Tryz.func98.trans (congrArg some (by kernel_rfl))
  f294 := Tryz.func118.trans (congrArg some (by kernel_rfl))
  f295 := Tryz.func119.trans (congrArg some (by kernel_rfl))
  f296 := Tryz.func120.trans (congrArg some (by kernel_rfl))
  f297 := Tryz.func121.trans (congrArg some (by kernel_rfl))
  f298 := Tryz.func122.trans (congrArg some (by kernel_rfl))
  f299 := Tryz.func123.trans (congrArg some (by kernel_rfl))
  f300 := Tryz.func125.trans (congrArg some (by kernel_rfl))
  f301 := Tryz.func126.trans (congrArg some (by kernel_rfl))
  f328 := Tryz.func132.trans (congrArg some (by kernel_rfl))
  f329 := Tryz.func103.trans (congrArg some (by kernel_rfl))
  f330 := Tryz.func104.trans (congrArg some (by kernel_rfl))
  f331 := Tryz.func133.trans (congrArg some (by kernel_rfl))
  f332 := Tryz.func134.trans (congrArg some (by kernel_rfl))
  f343 := Tryz.func135.trans (congrArg some (by kernel_rfl))
  t0 := Tryz.underlying0
  a0 := Tryz.isAgg0
  z0 := Tryz.sizeOf0
  v0 := Tryz.zeroValue0
  t3 := Tryz.underlying3
  a3 := Tryz.isAgg3
  z3 := Tryz.sizeOf3
  v3 := Tryz.zeroValue3
  t4 := Tryz.underlying4
  a4 := Tryz.isAgg4
  z4 := Tryz.sizeOf4
  v4 := Tryz.zeroValue4
  t5 := Tryz.underlying5
  a5 := Tryz.isAgg5
  z5 := Tryz.sizeOf5
  v5 := Tryz.zeroValue5
  t9 := Tryz.underlying9
  a9 := Tryz.isAgg9
  z9 := Tryz.sizeOf9
  v9 := Tryz.zeroValue9
  t28 := Tryz.underlying22
  a28 := Tryz.isAgg22
  z28 := Tryz.sizeOf22
  v28 := Tryz.zeroValue22
  t46 := Tryz.underlying91
  a46 := Tryz.isAgg91
  z46 := Tryz.sizeOf91
  v46 := Tryz.zeroValue91
  t51 := Tryz.underlying115
  a51 := Tryz.isAgg115
  z51 := Tryz.sizeOf115
  v51 := Tryz.zeroValue115
  t53 := Tryz.underlying117
  a53 := Tryz.isAgg117
  z53 := Tryz.sizeOf117
  v53 := Tryz.zeroValue117
  t131 := Tryz.underlying81
  a131 := Tryz.isAgg81
  z131 := Tryz.sizeOf81
  v131 := Tryz.zeroValue81
  t182 := Tryz.underlying108
  a182 := Tryz.isAgg108
  z182 := Tryz.sizeOf108
  v182 := Tryz.zeroValue108
  t183 := Tryz.underlying109
  a183 := Tryz.isAgg109
  z183 := Tryz.sizeOf109
  v183 := Tryz.zeroValue109
  t218 := Tryz.underlying141
  a218 := Tryz.isAgg141
  z218 := Tryz.sizeOf141
  v218 := Tryz.zeroValue141
  t222 := Tryz.underlying145
  a222 := Tryz.isAgg145
  z222 := Tryz.sizeOf145
  v222 := Tryz.zeroValue145
  t228 := Tryz.underlying160
  a228 := Tryz.isAgg160
  z228 := Tryz.sizeOf160
  v228 := Tryz.zeroValue160
  t229 := Tryz.underlying161
  a229 := Tryz.isAgg161
  z229 := Tryz.sizeOf161
  v229 := Tryz.zeroValue161 }
def Tryz.sortF_ren : Go.Shelf.Ren := ⟨fun | 6 => 37 | 15 => 58 | 14 => 57 | 28 => 83 | 29 => 84 | 20 => 75 | 21 => 76 | 22 => 77 | 23 => 78 | 24 => 79 | 25 => 80 | 26 => 81 | 27 => 82 | 46 => 102 | 47 => 103 | 48 => 104 | 49 => 105 | 50 => 106 | 57 => 127 | n => n, fun | 22 => 22 | 24 => 3 | 25 => 68 | 3 => 3 | 39 => 91 | 0 => 0 | 53 => 115 | 55 => 117 | 4 => 4 | 46 => 109 | 45 => 108 | 50 => 81 | 5 => 5 | 9 => 9 | 66 => 141 | 70 => 145 | 76 => 160 | 77 => 161 | n => n, fun | n => n⟩
theorem Tryz.sortF : Go.Proofs.SlLaysF.n6 Tryz.prog Tryz.sortF_ren := {
  mixed := by kernel_rfl
  f6 := ⟨Tryz.f37.name, by decide, Tryz.func37.trans (congrArg some (by kernel_rfl))⟩
  f14 := ⟨Tryz.f57.name, by decide, Tryz.func57.trans (congrArg some (by kernel_rfl))⟩
  f15 := Tryz.func58.trans (congrArg some (by kernel_rfl))
  f20 := ⟨Tryz.f75.name, by decide, Tryz.func75.trans (congrArg some (by kernel_rfl))⟩
  f21 := ⟨Tryz.f76.name, by decide, Tryz.func76.trans (congrArg some (by kernel_rfl))⟩
  f22 := ⟨Tryz.f77.name, by decide, Tryz.func77.trans (congrArg some (by kernel_rfl))⟩
  f23 := ⟨Tryz.f78.name, by decide, Tryz.func78.trans (congrArg some (by kernel_rfl))⟩
  f24 := ⟨Tryz.f79.name, by decide, Tryz.func79.trans (congrArg some (by kernel_rfl))⟩
  f25 := ⟨Tryz.f80.name, by decide, Tryz.func80.trans (congrArg some (by kernel_rfl))⟩
  f26 := ⟨Tryz.f81.name, by decide, Tryz.func81.trans (congrArg some (by kernel_rfl))⟩
  f27 := ⟨Tryz.f82.name, by decide, Tryz.func82.trans (congrArg some (by kernel_rfl))⟩
  f28 := Tryz.func83.trans (congrArg some (by kernel_rfl))
  f29 := Tryz.func84.trans (congrArg some (by kernel_rfl))
  f46 := ⟨Tryz.f102.name, by decide, Tryz.func102.trans (congrArg some (by kernel_rfl))⟩
  f47 := Tryz.func103.trans (congrArg some (by kernel_rfl))
  f48 := Tryz.func104.trans (congrArg some (by kernel_rfl))
  f49 := ⟨Tryz.f105.name, by decide, Tryz.func105.trans (congrArg some (by kernel_rfl))⟩
  f50 := ⟨Tryz.f106.name, by decide, Tryz.func106.trans (congrArg some (by kernel_rfl))⟩
  f57 := ⟨Tryz.f127.name, by decide, Tryz.func127.trans (congrArg some (by kernel_rfl))⟩
  t0 := Tryz.underlying0
  a0 := Tryz.isAgg0
  z0 := Tryz.sizeOf0
  v0 := Tryz.zeroValue0
  t3 := Tryz.underlying3
  a3 := Tryz.isAgg3
  z3 := Tryz.sizeOf3
  v3 := Tryz.zeroValue3
  t4 := Tryz.underlying4
  a4 := Tryz.isAgg4
  z4 := Tryz.sizeOf4
  v4 := Tryz.zeroValue4
  t5 := Tryz.underlying5
  a5 := Tryz.isAgg5
  z5 := Tryz.sizeOf5
  v5 := Tryz.zeroValue5
  t9 := Tryz.underlying9
  a9 := Tryz.isAgg9
  z9 := Tryz.sizeOf9
  v9 := Tryz.zeroValue9
  t22 := Tryz.underlying22
  a22 := Tryz.isAgg22
  z22 := Tryz.sizeOf22
  v22 := Tryz.zeroValue22
  a24 := Tryz.isAgg3
  z24 := Tryz.sizeOf3
  t25 := Tryz.underlying68
  a25 := Tryz.isAgg68
  z25 := Tryz.sizeOf68
  v25 := Tryz.zeroValue68
  t39 := Tryz.underlying91
  a39 := Tryz.isAgg91
  z39 := Tryz.sizeOf91
  v39 := Tryz.zeroValue91
  t45 := Tryz.underlying108
  a45 := Tryz.isAgg108
  z45 := Tryz.sizeOf108
  v45 := Tryz.zeroValue108
  t46 := Tryz.underlying109
  a46 := Tryz.isAgg109
  z46 := Tryz.sizeOf109
  v46 := Tryz.zeroValue109
  t50 := Tryz.underlying81
  a50 := Tryz.isAgg81
  z50 := Tryz.sizeOf81
  v50 := Tryz.zeroValue81
  t53 := Tryz.underlying115
  a53 := Tryz.isAgg115
  z53 := Tryz.sizeOf115
  v53 := Tryz.zeroValue115
  t55 := Tryz.underlying117
  a55 := Tryz.isAgg117
  z55 := Tryz.sizeOf117
  v55 := Tryz.zeroValue117
  t66 := Tryz.underlying141
  a66 := Tryz.isAgg141
  z66 := Tryz.sizeOf141
  v66 := Tryz.zeroValue141
  t70 := Tryz.underlying145
  a70 := Tryz.isAgg145
  z70 := Tryz.sizeOf145
  v70 := Tryz.zeroValue145
  t76 := Tryz.underlying160
  a76 := Tryz.isAgg160
  z76 := Tryz.sizeOf160
  v76 := Tryz.zeroValue160
  t77 := Tryz.underlying161
  a77 := Tryz.isAgg161
  z77 := Tryz.sizeOf161
  v77 := Tryz.zeroValue161 }
end Go.Proofs

/- Slices that are nil just if they are empty. No program in sight. -/
namespace Go.Fl
open Go Go.RowKit
def kRn {α : Type} (e : Enc α) (xs : List α) : Know := fun g v => kRd (eL e) xs g v ∧ (xs = [] → v = .slice none 0 0)
instance {α : Type} (e : Enc α) (xs : List α) : KDep (kRn e xs) [] := ⟨fun h _ k => ⟨Enc.val.mono h k.1, k.2⟩⟩
theorem nil_rd {α : Type} {e : Enc α} {g : Gh} {v : Value} (h : kDet (.slice none 0 0) g v) : kRd (eL e) [] g v := ⟨[.slice none 0 0], ⟨none, 0, rfl, ⟨by simp [lenMax], by simp⟩, .inl rfl⟩, h⟩
theorem nil_rn {α : Type} {e : Enc α} {g : Gh} {v : Value} (h : kDet (.slice none 0 0) g v) : kRn e [] g v := ⟨nil_rd h, fun _ => h⟩
theorem rd_rn {α : Type} {e : Enc α} {xs : List α} (hx : xs ≠ []) {g : Gh} {v : Value} (h : kRd (eL e) xs g v) : kRn e xs g v := ⟨h, fun e => absurd e hx⟩
theorem blk_nil2 {α β : Type} {e : Enc α} {f : Enc β} {g : Gh} {b : Bk} {o : Option Obj} (h : cBlk [kDet (.slice none 0 0), kDet (.slice none 0 0)] g b o) : cBlk [kRd (eL e) [], kRd (eL f) []] g b o := by
  obtain ⟨cs, ty, h1, h2⟩ := h
  refine ⟨cs, ty, h1, ?_⟩
  match hc : cs.toList, h2 with
  | [v1, v2], h2 => exact ⟨nil_rd h2.1, nil_rd h2.2.1, trivial⟩
section
variable {P : Program} {c : Ctx} {S : Slots} {M : Conts} {p : Bool} {d : Option Tmp} {ty : TypeId} {pos : String} {af : Array Edge} {gd : Option (Nat × Bool)} {x y : Operand} {b b' : Bool} {Q : Exit → Act → World → Prop}
theorem ok_eqlNilN {t et t' : TypeId} [ht : TySl P t et] {α : Type} {e : Enc α} {xs : List α} (hx : opK S x = some (b, kRn e xs)) (hb : p = true → b = true) :
    OpOk P c S M ⟨d, .binOp .eql t x (.const (.slice none 0 0)) t', ty, pos, af, gd⟩ p (kB xs.isEmpty) none :=
  OpOk.pure fun hp a g w _ _ ho => by
    obtain ⟨⟨cs, h1, h2⟩, hn⟩ := ho x (by simp [Op.operands]) b _ hx (hb hp)
    obtain ⟨ad, cap, rfl, _, h4⟩ := h1
    have he : a.eval (.const (.slice none 0 0)) = .slice none 0 0 := rfl
    have h2' : a.eval x = .slice ad xs.length cap := h2
    have hv : ad.isNone = xs.isEmpty := by
      rcases h4 with h4 | ⟨_, _, h4, _⟩
      · have := hn h4
        subst h4
        rw [h2'] at this
        simp only [List.length_nil, Value.slice.injEq] at this
        rw [this.1]; rfl
      · subst h4
        cases xs with
        | nil => have := hn rfl; rw [h2'] at this; simp at this
        | cons _ _ => rfl
    exact ⟨.bool ad.isNone, by simp only [execOp, h2', he, eqGuard_at_slice, Sem.run_bind, Sem.run_pure, Result.andThen_ok, Lib.run_eql_slice_nil w t et ad _ _ 0 0 ht.h], by rw [hv]; rfl⟩
theorem End.re {s : Nat} {k k' : Know} {dep : List Nat} (hl : look S s = some (true, k)) (hc : ∀ g v, k g v → k' g v) [hk : KDep k' dep] (hs : subT dep (tags M) = true) (K : End c (⟨s, true, dep, k'⟩ :: S) M Q) : End c S M Q := fun a g w h =>
  K a g w ⟨h.ok, fun t b k0 hl' => by
    simp only [look] at hl'
    cases hb : Nat.beq s t with
    | true =>
      rw [hb] at hl'
      simp only [cond_true, Option.some.injEq, Prod.mk.injEq] at hl'
      obtain ⟨rfl, rfl⟩ := hl'
      rw [← Nat.eq_of_beq_eq_true hb]
      exact ⟨fun _ => hc _ _ ((h.slots s _ _ hl).1 rfl), fun hf => by cases hf⟩
    | false =>
      rw [hb] at hl'
      exact h.slots t b k0 hl', h.conts, h.dom, h.nodup, fun e he => by
    rcases List.mem_cons.1 he with rfl | he
    · exact ⟨hk, subT_spec hs⟩
    · exact h.sdep e he, h.cdep, h.defers, h.size⟩
theorem End.rnR {s : Nat} {α : Type} {e : Enc α} {u v : List α} (hl : look S s = some (true, kRn e u)) (he : u = v) (K : End c (⟨s, true, [], kRd (eL e) v⟩ :: S) M Q) : End c S M Q :=
  End.re hl (fun _ _ h => by subst he; exact h.1) rfl K
theorem Tr.rnR {code : Code} {s : Nat} {α : Type} {e : Enc α} {u v : List α} (hl : look S s = some (true, kRn e u)) (he : u = v) (K : Tr P c (⟨s, true, [], kRd (eL e) v⟩ :: S) M code Q) : Tr P c S M code Q :=
  Tr.re hl (fun _ _ h => by subst he; exact h.1) rfl K
end
/-! ### What is put together from two new things, in a region that draws its order -/
class KsHas (ks : List Know) (t : Nat) : Prop where
  has : ∀ {g : Gh} {vs : List Value}, allK g ks vs → g.M t ≠ none
instance {k : Know} {ks : List Know} {t : Nat} [h : KHas k t] : KsHas (k :: ks) t := ⟨fun {_ vs} hk => by
  cases vs with
  | nil => exact hk.elim
  | cons v vs => exact h.has hk.1⟩
instance (priority := low) {k : Know} {ks : List Know} {t : Nat} [h : KsHas ks t] : KsHas (k :: ks) t := ⟨fun {_ vs} hk => by
  cases vs with
  | nil => exact hk.elim
  | cons v vs => exact h.has hk.2⟩
instance {ks : List Know} {t : Nat} [h : KsHas ks t] : KHas (kAgg ks) t := ⟨fun ⟨_, _, hk⟩ => h.has hk⟩
section
variable {P : Program} {c : Ctx} {Q : Exit → Act → World → Prop} {S : Slots} {M M0 : Conts} {ops : Array Oper} {rest : List Oper} {d : Nat} {oop : Op} {ty : TypeId} {pos : String} {af : Array Edge} {m : Nat}
theorem RunD.opN2 {k : Know} {dep : List Nat} {u v : Nat} (h : OpOk P c S M0 ⟨some d, oop, ty, pos, af, none⟩ true k none) [hk : KDep k dep] [hu : KHas k u] [hv : KHas k v] (hd : subT dep [u, v] = true) (hs : subT [u, v] (tags M) = true) (hn : Nat.blt d c.n = true)
    (K : RunD P c ops Q M0 rest m (⟨d, true, dep, k⟩ :: S) M) : RunD P c ops Q M0 (⟨some d, oop, ty, pos, af, none⟩ :: rest) (m + 1) S M :=
  ⟨⟨d, true, dep, k, none⟩, ⟨rfl, h, hk, fun t ht => .inr ⟨subT_spec hs t (subT_spec hd t ht), by
    have := subT_spec hd t ht
    simp only [List.mem_cons, List.not_mem_nil, or_false] at this
    rcases this with rfl | rfl
    · exact hu
    · exact hv⟩, fun _ h => (by cases h), by simpa [Nat.blt_eq] using hn, .inl ⟨rfl, rfl⟩⟩, K⟩
end
end Go.Fl

/- Contracts: components, numberings, labels. -/
namespace Go.Fl
open Go Go.Proofs

instance : NB 10 13 := ⟨rfl⟩

theorem ctb_srt {z : Bool} {ty : TypeId} {xs : List Int} {len : Nat} (hlen : 0 < len) (hm : len ≤ 1000000) : CtB Tryz.prog 72 (kOsl 0 len) [] (cArr z ty eI xs len) (cArr z ty eI (sortI xs) len) (kDet (.tuple #[])) := ctb_sort Tryz.lays189 hlen hm

set_option maxRecDepth 100000 in
theorem ct_numbering (o : Ori) (s : Int) (v : Valid o) (hs : Sq o.1.length s) : Ct Tryz.prog 32 [kRd eO o, kI s] (kRd (eL eI) (numL o s)) := by
  have hv0 := v.pos
  have hv1 := v.len
  have hv2 := v.le
  have hs0 := hs.1
  have hs1 := hs.2
  refine Ct.mk Tryz.func32 rfl Tryz.ntmps32 rfl (fun w J => ?_)
  refine Tr.seq ?_
  refine Tr.rg ?_
  refine TrL.new (ok_box 2 rfl (fun _ => rfl) rfl) rfl rfl rfl rfl ?_
  refine TrL.op (ok_assign rfl (fun _ => rfl)) rfl rfl ?_
  refine TrL.fin ?_
  refine End.nxt ?_
  refine Tr.seq ?_
  refine Tr.rg ?_
  refine TrL.op (ok_bslJ eI (fun hp => .cons rfl <| .nil) rfl rfl rfl rfl) rfl rfl ?_
  refine TrL.op (ok_fldO rfl (fun _ => rfl)) rfl rfl ?_
  refine TrL.op (ok_ldB rfl (fun _ => rfl) rfl) rfl rfl ?_
  refine TrL.op (ok_lenJ rfl (fun _ => rfl)) rfl rfl ?_
  refine TrL.new (ok_callN 14 (fun hp => ct_RepeatN _ _ (by omega) (by omega)) (.a rfl (fun _ => rfl) <| .a rfl (fun _ => rfl) <| .nil)) rfl rfl rfl rfl ?_
  refine TrL.op (ok_assign rfl (fun _ => rfl)) rfl rfl ?_
  refine TrL.fin ?_
  refine End.nxt ?_
  refine Tr.seq ?_
  refine Tr.rg ?_
  refine TrL.op (ok_move rfl (fun _ => rfl)) rfl rfl ?_
  refine TrL.op (ok_move rfl (fun _ => rfl)) rfl rfl ?_
  first | refine TrL.op (ok_idxEN rfl (fun _ => rfl) rfl (fun _ => rfl) (fun _ => by omega)) rfl rfl ?_ | refine TrL.op (ok_idxE rfl (fun _ => rfl) rfl (fun _ => rfl) (fun _ => by omega)) rfl rfl ?_
  refine TrL.stE rfl rfl rfl rfl rfl ?_
  refine TrL.fin ?_
  refine End.nxt ?_
  refine Tr.seq ?_
  refine Tr.rg ?_
  refine TrL.op (ok_move rfl (fun _ => rfl)) rfl rfl ?_
  refine TrL.new (ok_bsl eI 19 (fun hp => .cons rfl <| .nil) rfl rfl rfl rfl) rfl rfl rfl rfl ?_
  refine TrL.op (ok_assign rfl (fun _ => rfl)) rfl rfl ?_
  refine TrL.fin ?_
  refine End.nxt ?_
  refine Tr.seq ?_
  refine Tr.seq ?_
  refine Tr.rg ?_
  refine TrL.op (ok_assign rfl (fun _ => rfl)) rfl rfl ?_
  refine TrL.fin ?_
  refine End.nxt ?_
  refine Tr.for1 (σ := Nat) [⟨2, true, _, _⟩, ⟨5, true, _, _⟩] [⟨2, _, _⟩] (fun k => [⟨6, true, [19], kOsl 19 (bfsTo o [] s k).length⟩, ⟨7, true, [], kI (k : Int)⟩]) (fun k => [⟨14, [], cArr false 3 eI (numN o.1.length (bfsTo o [] s k)) o.1.length⟩, ⟨19, [], cArr false 3 eI (bfsTo o [] s k) (bfsTo o [] s k).length⟩]) (fun k => k ≤ o.1.length) (fun k => (bfsTo o [] s k).length ≤ k) (fun k => o.1.length - k) (0) (Nat.zero_le _) (Ent.mk (.o rfl (by first | rfl | omega | (simp; done) | (simp; omega) | assumption) rfl <| .i rfl (by first | rfl | omega | (simp; done) | (simp; omega) | assumption) <| .k rfl rfl <| .k rfl rfl <| .nil) (.a (numN_start hs.1) (by first | rfl | omega | (simp; done) | (simp; omega) | assumption) <| .a (by first | rfl | omega | (simp; done) | (simp; omega) | assumption) (by first | rfl | omega | (simp; done) | (simp; omega) | assumption) <| .k rfl <| .nil) rfl) ?_ ?_
  · intro k hR0
    refine Tr.norm (S' := [⟨6, true, _, _⟩, ⟨7, true, _, _⟩, ⟨2, true, _, _⟩, ⟨5, true, _, _⟩]) (M' := [⟨14, _, _⟩, ⟨19, _, _⟩, ⟨2, _, _⟩]) rfl rfl ?_
    have hlen := bfsTo_len v (good1 hs) k
    refine Tr.seq ?_
    refine Tr.seq ?_
    refine Tr.rg ?_
    refine TrL.op (ok_move rfl (fun _ => rfl)) rfl rfl ?_
    refine TrL.op (ok_move rfl (fun _ => rfl)) rfl rfl ?_
    refine TrL.op (ok_lenO rfl (fun _ => rfl)) rfl rfl ?_
    refine TrL.op (ok_lss rfl (fun _ => rfl) rfl (fun _ => rfl)) rfl rfl ?_
    refine TrL.fin ?_
    refine End.nxt ?_
    refine Tr.cnd rfl ?_ ?_
    · intro h5
      replace h5 := of_decide_eq_true h5
      have hlt : k < (bfsTo o [] s k).length := by omega
      have hxr := srch_x v (good1 hs) hlt
      have hx0 := hxr.1
      have hx1 := hxr.2
      refine Tr.skip ?_
      refine End.nxt ?_
      refine Tr.seq ?_
      refine Tr.blk ?_
      refine Tr.seq ?_
      refine Tr.draw 18 mixed (by kernel_rfl) ?_
      refine RunD.op (ok_fldO rfl (fun _ => rfl)) rfl rfl ?_
      refine RunD.op (ok_ldB rfl (fun _ => rfl) rfl) rfl rfl ?_
      refine RunD.op (ok_move rfl (fun _ => rfl)) rfl rfl ?_
      refine RunD.op (ok_move rfl (fun _ => rfl)) rfl rfl ?_
      first | refine RunD.op (ok_idxEN rfl (fun _ => rfl) rfl (fun _ => rfl) (fun _ => by omega)) rfl rfl ?_ | refine RunD.op (ok_idxE rfl (fun _ => rfl) rfl (fun _ => rfl) (fun _ => by omega)) rfl rfl ?_
      refine RunD.op (ok_ldE rfl (fun _ => rfl) rfl rfl rfl) rfl rfl ?_
      first | refine RunD.op (ok_idxN rfl (fun _ => rfl) rfl (fun _ => rfl) rfl (fun _ => by omega)) rfl rfl ?_ | refine RunD.op (ok_idxP rfl (fun _ => rfl) rfl (fun _ => rfl) rfl (fun _ => by omega)) rfl rfl ?_
      refine RunD.op (ok_ldP rfl (fun _ => rfl) rfl) rfl rfl ?_
      refine RunD.op (ok_fldO rfl (fun _ => rfl)) rfl rfl ?_
      refine RunD.op (ok_ldB rfl (fun _ => rfl) rfl) rfl rfl ?_
      refine RunD.op (ok_move rfl (fun _ => rfl)) rfl rfl ?_
      refine RunD.op (ok_move rfl (fun _ => rfl)) rfl rfl ?_
      first | refine RunD.op (ok_idxEN rfl (fun _ => rfl) rfl (fun _ => rfl) (fun _ => by omega)) rfl rfl ?_ | refine RunD.op (ok_idxE rfl (fun _ => rfl) rfl (fun _ => rfl) (fun _ => by omega)) rfl rfl ?_
      refine RunD.op (ok_ldE rfl (fun _ => rfl) rfl rfl rfl) rfl rfl ?_
      first | refine RunD.op (ok_idxN rfl (fun _ => rfl) rfl (fun _ => rfl) rfl (fun _ => by omega)) rfl rfl ?_ | refine RunD.op (ok_idxP rfl (fun _ => rfl) rfl (fun _ => rfl) rfl (fun _ => by omega)) rfl rfl ?_
      refine RunD.op (ok_ldP rfl (fun _ => rfl) rfl) rfl rfl ?_
      refine RunD.op (ok_buildL [(0, 1), (1, 1)] rfl (fun hp => .cons rfl rfl rfl <| .cons rfl rfl rfl <| .nil)) rfl rfl ?_
      refine RunD.op (ok_move rfl (fun _ => rfl)) rfl rfl ?_
      refine RunD.z ?_
      refine TrL.fin ?_
      refine End.nxt ?_
      refine Tr.for1 (σ := Nat) [⟨2, true, _, _⟩, ⟨5, true, _, _⟩, ⟨7, true, _, _⟩, ⟨42, true, _, _⟩] [⟨2, _, _⟩] (fun j => [⟨6, true, [19], kOsl 19 (srch o [] s k j).length⟩, ⟨43, true, [], kI (j : Int)⟩]) (fun j => [⟨14, [], cArr false 3 eI (numN o.1.length (srch o [] s k j)) o.1.length⟩, ⟨19, [], cArr false 3 eI (srch o [] s k j) (srch o [] s k j).length⟩]) (fun j => j ≤ 2) (fun j => j = 2) (fun j => 2 - j) (0) (by omega) (Ent.mk (.o rfl (by first | rfl | omega | (simp; done) | (simp; omega) | assumption) rfl <| .i rfl (by first | rfl | omega | (simp; done) | (simp; omega) | assumption) <| .k rfl rfl <| .k rfl rfl <| .k rfl rfl <| .k rfl rfl <| .nil) (.a (by first | rfl | omega | (simp; done) | (simp; omega) | assumption) (by first | rfl | omega | (simp; done) | (simp; omega) | assumption) <| .a (by first | rfl | omega | (simp; done) | (simp; omega) | assumption) (by first | rfl | omega | (simp; done) | (simp; omega) | assumption) <| .k rfl <| .nil) rfl) ?_ ?_
      · intro j hR1
        refine Tr.norm (S' := [⟨6, true, _, _⟩, ⟨43, true, _, _⟩, ⟨2, true, _, _⟩, ⟨5, true, _, _⟩, ⟨7, true, _, _⟩, ⟨42, true, _, _⟩]) (M' := [⟨14, _, _⟩, ⟨19, _, _⟩, ⟨2, _, _⟩]) rfl rfl ?_
        have hgl := srch_len (j := j) v (good1 hs) hlt
        have hyr := fun (hj : j < 2) => srch_y (j := j) v (good1 hs) hlt hj
        refine Tr.seq ?_
        refine Tr.rg ?_
        refine TrL.op (ok_lss rfl (fun _ => rfl) rfl (fun _ => rfl)) rfl rfl ?_
        refine TrL.fin ?_
        refine End.nxt ?_
        refine Tr.seq ?_
        refine Tr.cnd rfl ?_ ?_
        · intro h8
          replace h8 := of_decide_eq_true h8
          have hy := hyr (by omega)
          have hyY : 0 ≤ nth [nth o.1 (nth (bfsTo o [] s k) k).toNat, nth o.2 (nth (bfsTo o [] s k) k).toNat] j ∧ nth [nth o.1 (nth (bfsTo o [] s k) k).toNat, nth o.2 (nth (bfsTo o [] s k) k).toNat] j < o.1.length := hy
          have hnn := numN_new (l := srch o [] s k j) hy
          refine Tr.skip ?_
          refine End.nxt ?_
          refine Tr.seq ?_
          refine Tr.blk ?_
          refine Tr.seq ?_
          refine Tr.rg ?_
          refine TrL.op (ok_idxA eI rfl (fun _ => rfl) rfl (fun _ => rfl) rfl rfl (fun _ => ⟨by omega, by simp; omega⟩)) rfl rfl ?_
          refine TrL.op (ok_assign rfl (fun _ => rfl)) rfl rfl ?_
          refine TrL.fin ?_
          refine End.nxt ?_
          refine Tr.seq ?_
          refine Tr.rg ?_
          refine TrL.op (ok_move rfl (fun _ => rfl)) rfl rfl ?_
          refine TrL.op (ok_move rfl (fun _ => rfl)) rfl rfl ?_
          first | refine TrL.op (ok_idxEN rfl (fun _ => rfl) rfl (fun _ => rfl) (fun _ => by omega)) rfl rfl ?_ | refine TrL.op (ok_idxE rfl (fun _ => rfl) rfl (fun _ => rfl) (fun _ => by omega)) rfl rfl ?_
          refine TrL.op (ok_ldE rfl (fun _ => rfl) rfl rfl rfl) rfl rfl ?_
          refine TrL.op (ok_lss rfl (fun _ => rfl) rfl (fun _ => rfl)) rfl rfl ?_
          refine TrL.fin ?_
          refine End.nxt ?_
          refine Tr.cnd rfl ?_ ?_
          · intro h10
            replace h10 := of_decide_eq_true h10
            have hnew := hnn.1 h10
            refine Tr.seq ?_
            refine Tr.rg ?_
            refine TrL.op (ok_move rfl (fun _ => rfl)) rfl rfl ?_
            refine TrL.op (ok_move rfl (fun _ => rfl)) rfl rfl ?_
            refine TrL.op (ok_move rfl (fun _ => rfl)) rfl rfl ?_
            refine TrL.op (ok_lenO rfl (fun _ => rfl)) rfl rfl ?_
            first | refine TrL.op (ok_idxEN rfl (fun _ => rfl) rfl (fun _ => rfl) (fun _ => by omega)) rfl rfl ?_ | refine TrL.op (ok_idxE rfl (fun _ => rfl) rfl (fun _ => rfl) (fun _ => by omega)) rfl rfl ?_
            refine TrL.stE rfl rfl rfl rfl rfl ?_
            refine TrL.fin ?_
            refine End.nxt ?_
            refine Tr.rg ?_
            refine TrL.op (ok_move rfl (fun _ => rfl)) rfl rfl ?_
            refine TrL.op (ok_move rfl (fun _ => rfl)) rfl rfl ?_
            refine TrL.new (ok_bsl eI 58 (fun hp => .cons rfl <| .nil) rfl rfl rfl rfl) rfl rfl rfl rfl ?_
            refine TrL.app rfl rfl rfl rfl rfl rfl rfl rfl (by first | omega | (simp only [List.length_cons, List.length_nil]; omega)) (by first | omega | (simp only [List.length_cons, List.length_nil]; omega)) ?_
            refine TrL.norm (S' := [⟨_, _, _, _⟩, ⟨_, _, _, _⟩, ⟨_, _, _, _⟩, ⟨_, _, _, _⟩, ⟨_, _, _, _⟩, ⟨_, _, _, _⟩, ⟨_, _, _, _⟩, ⟨_, _, _, _⟩, ⟨_, _, _, _⟩, ⟨_, _, _, _⟩, ⟨_, _, _, _⟩, ⟨_, _, _, _⟩, ⟨_, _, _, _⟩, ⟨_, _, _, _⟩, ⟨_, _, _, _⟩, ⟨_, _, _, _⟩, ⟨_, _, _, _⟩, ⟨_, _, _, _⟩, ⟨_, _, _, _⟩, ⟨_, _, _, _⟩, ⟨_, _, _, _⟩, ⟨_, _, _, _⟩, ⟨_, _, _, _⟩]) rfl rfl ?_
            refine TrL.op (ok_assign rfl (fun _ => rfl)) rfl rfl ?_
            refine TrL.fin ?_
            refine End.blk ?_
            refine End.nxt ?_
            refine Tr.rg ?_
            refine TrL.op (ok_add rfl (fun _ => rfl) rfl (fun _ => rfl) (fun _ => by omega)) rfl rfl ?_
            refine TrL.op (ok_move rfl (fun _ => rfl)) rfl rfl ?_
            refine TrL.fin ?_
            exact End.lp (j + 1) (by first | rfl | omega | (simp; done) | (simp; omega) | assumption) (by omega) (Ent.mk (.o rfl (by rw [srch_new (by omega) hnew, List.length_append]; rfl) rfl <| .i rfl (by first | rfl | omega | (simp; done) | (simp; omega) | assumption) <| .k rfl rfl <| .k rfl rfl <| .k rfl rfl <| .k rfl rfl <| .nil) (.a (by rw [srch_new (by omega) hnew]; exact numN_set (x := nth (stp o (nth (bfsTo o [] s k) k)) j) hy.1 (by simpa using hnew)) (by first | rfl | omega | (simp; done) | (simp; omega) | assumption) <| .a (by rw [srch_new (by omega) hnew]; rfl) (by rw [srch_new (by omega) hnew, List.length_append]; rfl) <| .k rfl <| .nil) rfl)
          · intro h10
            replace h10 := Int.not_lt.1 (of_decide_eq_false h10)
            have hold := Classical.not_not.1 (fun hh => absurd (hnn.2 hh) (Int.not_lt.2 h10))
            refine Tr.skip ?_
            refine End.blk ?_
            refine End.nxt ?_
            refine Tr.rg ?_
            refine TrL.op (ok_add rfl (fun _ => rfl) rfl (fun _ => rfl) (fun _ => by omega)) rfl rfl ?_
            refine TrL.op (ok_move rfl (fun _ => rfl)) rfl rfl ?_
            refine TrL.fin ?_
            exact End.lp (j + 1) (by first | rfl | omega | (simp; done) | (simp; omega) | assumption) (by omega) (Ent.mk (.o rfl (by rw [srch_in (by omega) hold]) rfl <| .i rfl (by first | rfl | omega | (simp; done) | (simp; omega) | assumption) <| .k rfl rfl <| .k rfl rfl <| .k rfl rfl <| .k rfl rfl <| .nil) (.a (by rw [srch_in (by omega) hold]) (by first | rfl | omega | (simp; done) | (simp; omega) | assumption) <| .a (by rw [srch_in (by omega) hold]) (by rw [srch_in (by omega) hold]) <| .k rfl <| .nil) rfl)
        · intro h8
          replace h8 := Int.not_lt.1 (of_decide_eq_false h8)
          refine Tr.exit ?_
          refine Exs.thn ?_
          refine Exs.thn ?_
          refine Exs.here ?_
          exact End.cut (j) (by omega) (Ent.mk (.o rfl (by first | rfl | omega | (simp; done) | (simp; omega) | assumption) rfl <| .i rfl (by first | rfl | omega | (simp; done) | (simp; omega) | assumption) <| .k rfl rfl <| .k rfl rfl <| .k rfl rfl <| .k rfl rfl <| .nil) (.a (by first | rfl | omega | (simp; done) | (simp; omega) | assumption) (by first | rfl | omega | (simp; done) | (simp; omega) | assumption) <| .a (by first | rfl | omega | (simp; done) | (simp; omega) | assumption) (by first | rfl | omega | (simp; done) | (simp; omega) | assumption) <| .k rfl <| .nil) rfl)
      · rintro _ rfl
        refine End.norm (S' := [⟨6, true, _, _⟩, ⟨43, true, _, _⟩, ⟨2, true, _, _⟩, ⟨5, true, _, _⟩, ⟨7, true, _, _⟩, ⟨42, true, _, _⟩]) (M' := [⟨14, _, _⟩, ⟨19, _, _⟩, ⟨2, _, _⟩]) rfl rfl ?_
        refine End.blk ?_
        refine End.nxt ?_
        refine Tr.rg ?_
        refine TrL.op (ok_move rfl (fun _ => rfl)) rfl rfl ?_
        refine TrL.op (ok_add rfl (fun _ => rfl) rfl (fun _ => rfl) (fun _ => by omega)) rfl rfl ?_
        refine TrL.op (ok_assign rfl (fun _ => rfl)) rfl rfl ?_
        refine TrL.fin ?_
        exact End.lp (k + 1) (by first | rfl | omega | (simp; done) | (simp; omega) | assumption) (by omega) (Ent.mk (.o rfl (by rw [srch_two hlt]) rfl <| .i rfl (by first | rfl | omega | (simp; done) | (simp; omega) | assumption) <| .k rfl rfl <| .k rfl rfl <| .nil) (.a (by rw [srch_two hlt]) (by first | rfl | omega | (simp; done) | (simp; omega) | assumption) <| .a (by rw [srch_two hlt]) (by rw [srch_two hlt]) <| .k rfl <| .nil) rfl)
    · intro h5
      replace h5 := Int.not_lt.1 (of_decide_eq_false h5)
      refine Tr.exit ?_
      refine Exs.thn ?_
      refine Exs.thn ?_
      refine Exs.here ?_
      exact End.cut (k) (by omega) (Ent.mk (.o rfl (by first | rfl | omega | (simp; done) | (simp; omega) | assumption) rfl <| .i rfl (by first | rfl | omega | (simp; done) | (simp; omega) | assumption) <| .k rfl rfl <| .k rfl rfl <| .nil) (.a (by first | rfl | omega | (simp; done) | (simp; omega) | assumption) (by first | rfl | omega | (simp; done) | (simp; omega) | assumption) <| .a (by first | rfl | omega | (simp; done) | (simp; omega) | assumption) (by first | rfl | omega | (simp; done) | (simp; omega) | assumption) <| .k rfl <| .nil) rfl)
  · intro k hE0
    refine End.norm (S' := [⟨6, true, _, _⟩, ⟨7, true, _, _⟩, ⟨2, true, _, _⟩, ⟨5, true, _, _⟩]) (M' := [⟨14, _, _⟩, ⟨19, _, _⟩, ⟨2, _, _⟩]) rfl rfl ?_
    have hb := bfs_of v (good1 hs) hE0
    refine End.nxt ?_
    refine Tr.seq ?_
    refine Tr.rg ?_
    refine TrL.op (ok_move rfl (fun _ => rfl)) rfl rfl ?_
    refine TrL.op (ok_assign rfl (fun _ => rfl)) rfl rfl ?_
    refine TrL.fin ?_
    refine End.nxt ?_
    refine Tr.frz 14 [4] ⟨rfl, trivial⟩ (by simp only [lenMax]; omega) rfl ?_
    refine Tr.ret ?_
    exact Rts.res1 (fn := Tryz.f32) rfl (.r rfl (by rw [hb]; rfl) <| .nil)

set_option maxRecDepth 100000 in
theorem ct_renumbered (o : Ori) (f : List Int) (v : Valid o) (hfl : f.length = o.1.length) (hfr : inR f o.1.length) : Ct Tryz.prog 33 [kRd eO o, kRd (eL eI) f] (kRd eO (renL o f)) := by
  have hv0 := v.pos
  have hv1 := v.len
  have hv2 := v.le
  refine Ct.mk Tryz.func33 rfl Tryz.ntmps33 rfl (fun w J => ?_)
  refine Tr.seq ?_
  refine Tr.rg ?_
  refine TrL.new (ok_box 2 rfl (fun _ => rfl) rfl) rfl rfl rfl rfl ?_
  refine TrL.new (ok_alloc 4) rfl rfl rfl rfl ?_
  refine TrL.fin ?_
  refine End.nxt ?_
  refine Tr.seq ?_
  refine Tr.draw 8 mixed (by kernel_rfl) ?_
  refine RunD.op (ok_move rfl (fun _ => rfl)) rfl rfl ?_
  refine RunD.op (ok_lenJ rfl (fun _ => rfl)) rfl rfl ?_
  refine RunD.new (ok_makeN eI 10 rfl (fun _ => rfl) rfl (fun _ => rfl) rfl rfl rfl (fun _ => by omega)) rfl rfl rfl rfl ?_
  refine RunD.op (ok_move rfl (fun _ => rfl)) rfl rfl ?_
  refine RunD.op (ok_lenJ rfl (fun _ => rfl)) rfl rfl ?_
  refine RunD.new (ok_makeN eI 13 rfl (fun _ => rfl) rfl (fun _ => rfl) rfl rfl rfl (fun _ => by omega)) rfl rfl rfl rfl ?_
  refine RunD.opN2 (u := 10) (v := 13) (ok_build (fun hp => .cons rfl rfl rfl <| .cons rfl rfl rfl <| .nil)) rfl rfl rfl ?_
  refine RunD.new (ok_alloc 5) rfl rfl rfl rfl ?_
  refine RunD.z ?_
  refine TrL.stB rfl rfl rfl rfl ?_
  refine TrL.fin ?_
  refine End.nxt ?_
  refine Tr.seq ?_
  refine Tr.seq ?_
  refine Tr.rg ?_
  refine TrL.op (ok_move rfl (fun _ => rfl)) rfl rfl ?_
  refine TrL.op (ok_lenJ rfl (fun _ => rfl)) rfl rfl ?_
  refine TrL.op (ok_move rfl (fun _ => rfl)) rfl rfl ?_
  refine TrL.fin ?_
  refine End.nxt ?_
  refine Tr.for1 (σ := Nat) [⟨1, true, _, _⟩, ⟨2, true, _, _⟩, ⟨4, true, _, _⟩, ⟨5, true, _, _⟩, ⟨15, true, _, _⟩, ⟨16, true, _, _⟩] [⟨2, _, _⟩, ⟨4, _, _⟩] (fun k => [⟨17, true, [], kI (k : Int)⟩]) (fun k => [⟨10, [], cArr false 3 eI (renTo o.1 f k) f.length⟩, ⟨13, [], cArr false 3 eI (renTo o.2 f k) f.length⟩, ⟨5, [10, 13], cBlk [kOsl 10 f.length, kOsl 13 f.length]⟩]) (fun k => k ≤ f.length) (fun k => k = f.length) (fun k => f.length - k) (0) (Nat.zero_le _) (Ent.mk (.i rfl (by first | rfl | omega | (simp; done) | (simp; omega) | assumption) <| .k rfl rfl <| .k rfl rfl <| .k rfl rfl <| .k rfl rfl <| .k rfl rfl <| .k rfl rfl <| .nil) (.a renTo_zero.symm (by first | rfl | omega | (simp; done) | (simp; omega) | assumption) <| .a renTo_zero.symm (by first | rfl | omega | (simp; done) | (simp; omega) | assumption) <| .k rfl <| .k rfl <| .k rfl <| .nil) rfl) ?_ ?_
  · intro k hR0
    refine Tr.norm (S' := [⟨17, true, _, _⟩, ⟨1, true, _, _⟩, ⟨2, true, _, _⟩, ⟨4, true, _, _⟩, ⟨5, true, _, _⟩, ⟨15, true, _, _⟩, ⟨16, true, _, _⟩]) (M' := [⟨10, _, _⟩, ⟨13, _, _⟩, ⟨5, _, _⟩, ⟨2, _, _⟩, ⟨4, _, _⟩]) rfl rfl ?_
    have hl1 := renTo_len (p := o.1) (f := f) (k := k)
    have hl2 := renTo_len (p := o.2) (f := f) (k := k)
    refine Tr.seq ?_
    refine Tr.rg ?_
    refine TrL.op (ok_lss rfl (fun _ => rfl) rfl (fun _ => rfl)) rfl rfl ?_
    refine TrL.fin ?_
    refine End.nxt ?_
    refine Tr.seq ?_
    refine Tr.cnd rfl ?_ ?_
    · intro h3
      replace h3 := of_decide_eq_true h3
      refine Tr.skip ?_
      refine End.nxt ?_
      refine Tr.seq ?_
      refine Tr.blk ?_
      refine Tr.seq ?_
      refine Tr.rg ?_
      refine TrL.op (ok_move rfl (fun _ => rfl)) rfl rfl ?_
      first | refine TrL.op (ok_idxN rfl (fun _ => rfl) rfl (fun _ => rfl) rfl (fun _ => by omega)) rfl rfl ?_ | refine TrL.op (ok_idxP rfl (fun _ => rfl) rfl (fun _ => rfl) rfl (fun _ => by omega)) rfl rfl ?_
      refine TrL.op (ok_ldP rfl (fun _ => rfl) rfl) rfl rfl ?_
      refine TrL.op (ok_assign rfl (fun _ => rfl)) rfl rfl ?_
      refine TrL.op (ok_assign rfl (fun _ => rfl)) rfl rfl ?_
      refine TrL.fin ?_
      refine End.nxt ?_
      refine Tr.drawS 23 10 mixed (by kernel_rfl) ?_
      have a1 := hfr k (by omega)
      have a2 := v.ri (i := k) (by omega)
      have a3 := v.ui (i := k) (by omega)
      have a4 := hfr (nth o.1 k).toNat (by omega)
      have a5 := hfr (nth o.2 k).toNat (by omega)
      refine RunS.opA (ok_fldO rfl (fun _ => rfl)) (by kernel_rfl) rfl rfl ?_
      refine RunS.opA (ok_ldB rfl (fun _ => rfl) rfl) (by kernel_rfl) rfl rfl ?_
      refine RunS.opA (ok_move rfl (fun _ => rfl)) (by kernel_rfl) rfl rfl ?_
      refine RunS.op (ok_fldO rfl (fun _ => rfl)) rfl rfl ?_
      refine RunS.op (ok_ldB rfl (fun _ => rfl) rfl) rfl rfl ?_
      refine RunS.op (ok_move rfl (fun _ => rfl)) rfl rfl ?_
      refine RunS.opA (ok_move rfl (fun _ => rfl)) (by kernel_rfl) rfl rfl ?_
      refine RunS.opA (ok_fldO rfl (fun _ => rfl)) (by kernel_rfl) rfl rfl ?_
      refine RunS.opA (ok_ldB rfl (fun _ => rfl) rfl) (by kernel_rfl) rfl rfl ?_
      refine RunS.opA (ok_move rfl (fun _ => rfl)) (by kernel_rfl) rfl rfl ?_
      first | refine RunS.opA (ok_idxN rfl (fun _ => rfl) rfl (fun _ => rfl) rfl (fun _ => by omega)) (by kernel_rfl) rfl rfl ?_ | refine RunS.opA (ok_idxP rfl (fun _ => rfl) rfl (fun _ => rfl) rfl (fun _ => by omega)) (by kernel_rfl) rfl rfl ?_
      refine RunS.opA (ok_ldP rfl (fun _ => rfl) rfl) (by kernel_rfl) rfl rfl ?_
      first | refine RunS.opA (ok_idxN rfl (fun _ => rfl) rfl (fun _ => rfl) rfl (fun _ => by omega)) (by kernel_rfl) rfl rfl ?_ | refine RunS.opA (ok_idxP rfl (fun _ => rfl) rfl (fun _ => rfl) rfl (fun _ => by omega)) (by kernel_rfl) rfl rfl ?_
      refine RunS.opA (ok_ldP rfl (fun _ => rfl) rfl) (by kernel_rfl) rfl rfl ?_
      refine RunS.opA (ok_move rfl (fun _ => rfl)) (by kernel_rfl) rfl rfl ?_
      refine RunS.opA (ok_fldO rfl (fun _ => rfl)) (by kernel_rfl) rfl rfl ?_
      refine RunS.opA (ok_ldB rfl (fun _ => rfl) rfl) (by kernel_rfl) rfl rfl ?_
      refine RunS.opA (ok_move rfl (fun _ => rfl)) (by kernel_rfl) rfl rfl ?_
      first | refine RunS.opA (ok_idxN rfl (fun _ => rfl) rfl (fun _ => rfl) rfl (fun _ => by omega)) (by kernel_rfl) rfl rfl ?_ | refine RunS.opA (ok_idxP rfl (fun _ => rfl) rfl (fun _ => rfl) rfl (fun _ => by omega)) (by kernel_rfl) rfl rfl ?_
      refine RunS.opA (ok_ldP rfl (fun _ => rfl) rfl) (by kernel_rfl) rfl rfl ?_
      first | refine RunS.opA (ok_idxN rfl (fun _ => rfl) rfl (fun _ => rfl) rfl (fun _ => by omega)) (by kernel_rfl) rfl rfl ?_ | refine RunS.opA (ok_idxP rfl (fun _ => rfl) rfl (fun _ => rfl) rfl (fun _ => by omega)) (by kernel_rfl) rfl rfl ?_
      refine RunS.opA (ok_ldP rfl (fun _ => rfl) rfl) (by kernel_rfl) rfl rfl ?_
      first | refine RunS.opA (ok_idxEN rfl (fun _ => rfl) rfl (fun _ => rfl) (fun _ => by omega)) (by kernel_rfl) rfl rfl ?_ | refine RunS.opA (ok_idxE rfl (fun _ => rfl) rfl (fun _ => rfl) (fun _ => by omega)) (by kernel_rfl) rfl rfl ?_
      refine RunS.z (st_E rfl rfl rfl rfl rfl) rfl rfl rfl ?_
      first | refine TrL.op (ok_idxEN rfl (fun _ => rfl) rfl (fun _ => rfl) (fun _ => by omega)) rfl rfl ?_ | refine TrL.op (ok_idxE rfl (fun _ => rfl) rfl (fun _ => rfl) (fun _ => by omega)) rfl rfl ?_
      refine TrL.stE rfl rfl rfl rfl rfl ?_
      refine TrL.fin ?_
      refine End.blk ?_
      refine End.nxt ?_
      refine Tr.rg ?_
      refine TrL.op (ok_add rfl (fun _ => rfl) rfl (fun _ => rfl) (fun _ => by omega)) rfl rfl ?_
      refine TrL.op (ok_move rfl (fun _ => rfl)) rfl rfl ?_
      refine TrL.fin ?_
      exact End.lp (k + 1) (by first | rfl | omega | (simp; done) | (simp; omega) | assumption) (by omega) (Ent.mk (.i rfl (by first | rfl | omega | (simp; done) | (simp; omega) | assumption) <| .k rfl rfl <| .k rfl rfl <| .k rfl rfl <| .k rfl rfl <| .k rfl rfl <| .k rfl rfl <| .nil) (.a renTo_succ.symm (by first | rfl | omega | (simp; done) | (simp; omega) | assumption) <| .a renTo_succ.symm (by first | rfl | omega | (simp; done) | (simp; omega) | assumption) <| .k rfl <| .k rfl <| .k rfl <| .nil) rfl)
    · intro h3
      replace h3 := Int.not_lt.1 (of_decide_eq_false h3)
      refine Tr.exit ?_
      refine Exs.thn ?_
      refine Exs.thn ?_
      refine Exs.here ?_
      exact End.cut (k) (by omega) (Ent.mk (.i rfl (by first | rfl | omega | (simp; done) | (simp; omega) | assumption) <| .k rfl rfl <| .k rfl rfl <| .k rfl rfl <| .k rfl rfl <| .k rfl rfl <| .k rfl rfl <| .nil) (.a (by first | rfl | omega | (simp; done) | (simp; omega) | assumption) (by first | rfl | omega | (simp; done) | (simp; omega) | assumption) <| .a (by first | rfl | omega | (simp; done) | (simp; omega) | assumption) (by first | rfl | omega | (simp; done) | (simp; omega) | assumption) <| .k rfl <| .k rfl <| .k rfl <| .nil) rfl)
  · rintro _ rfl
    refine End.norm (S' := [⟨17, true, _, _⟩, ⟨1, true, _, _⟩, ⟨2, true, _, _⟩, ⟨4, true, _, _⟩, ⟨5, true, _, _⟩, ⟨15, true, _, _⟩, ⟨16, true, _, _⟩]) (M' := [⟨10, _, _⟩, ⟨13, _, _⟩, ⟨5, _, _⟩, ⟨2, _, _⟩, ⟨4, _, _⟩]) rfl rfl ?_
    refine End.nxt ?_
    refine Tr.seq ?_
    refine Tr.rg ?_
    refine TrL.op (ok_ldBS rfl (fun _ => rfl)) rfl rfl ?_
    refine TrL.stB rfl rfl rfl rfl ?_
    refine TrL.fin ?_
    refine End.nxt ?_
    refine Tr.ent (S' := [⟨4, true, _, _⟩]) (M' := [⟨4, _, _⟩, ⟨10, _, _⟩, ⟨13, _, _⟩]) (Ent.mk (.k rfl rfl <| .nil) (.k rfl <| .k rfl <| .k rfl <| .nil) rfl) ?_
    refine Tr.frzC 10 4 (by simp only [lenMax]; omega) rfl rfl ?_
    refine Tr.frzC 13 4 (by simp only [lenMax]; omega) rfl rfl ?_
    refine Tr.ret ?_
    exact Rts.resC1 (fn := Tryz.f33) rfl rfl (aggRd rfl (by rfl))

set_option maxRecDepth 100000 in
theorem ct_components (o : Ori) (v : Valid o) : Ct Tryz.prog 54 [kRd eO o] (kRd (eL (eL eI)) (comps o o.1.length)) := by
  have hv0 := v.pos
  have hv1 := v.len
  have hv2 := v.le
  refine Ct.mk Tryz.func54 rfl Tryz.ntmps54 rfl (fun w J => ?_)
  refine Tr.seq ?_
  refine Tr.rg ?_
  refine TrL.new (ok_box 1 rfl (fun _ => rfl) rfl) rfl rfl rfl rfl ?_
  refine TrL.op (ok_assign rfl (fun _ => rfl)) rfl rfl ?_
  refine TrL.fin ?_
  refine End.nxt ?_
  refine Tr.seq ?_
  refine Tr.rg ?_
  refine TrL.op (ok_fldO rfl (fun _ => rfl)) rfl rfl ?_
  refine TrL.op (ok_ldB rfl (fun _ => rfl) rfl) rfl rfl ?_
  refine TrL.op (ok_lenJ rfl (fun _ => rfl)) rfl rfl ?_
  refine TrL.new (ok_makeN eBool 13 rfl (fun _ => rfl) rfl (fun _ => rfl) rfl rfl rfl (fun _ => by omega)) rfl rfl rfl rfl ?_
  refine TrL.op (ok_assign rfl (fun _ => rfl)) rfl rfl ?_
  refine TrL.fin ?_
  refine End.nxt ?_
  refine Tr.seq ?_
  refine Tr.rg ?_
  refine TrL.op (ok_assign rfl (fun _ => rfl)) rfl rfl ?_
  refine TrL.fin ?_
  refine End.nxt ?_
  refine Tr.seq ?_
  refine Tr.seq ?_
  refine Tr.rg ?_
  refine TrL.op (ok_fldO rfl (fun _ => rfl)) rfl rfl ?_
  refine TrL.op (ok_ldB rfl (fun _ => rfl) rfl) rfl rfl ?_
  refine TrL.op (ok_lenJ rfl (fun _ => rfl)) rfl rfl ?_
  refine TrL.op (ok_move rfl (fun _ => rfl)) rfl rfl ?_
  refine TrL.fin ?_
  refine End.nxt ?_
  refine Tr.grow (s := 4) rfl rfl 4 rfl 22 (eL eI) rfl ?_
  refine Tr.for1 (σ := Nat) [⟨1, true, _, _⟩, ⟨3, true, _, _⟩, ⟨16, true, _, _⟩] [⟨1, _, _⟩] (fun k => [⟨4, true, [4], kOsl 4 (comps o k).length⟩, ⟨17, true, [], kI (k : Int)⟩]) (fun k => [⟨4, [], cArr true 22 (eL eI) (comps o k) (comps o k).length⟩, ⟨13, [], cArr false 4 eBool (seenB o.1.length (comps o k).flatten) o.1.length⟩]) (fun k => k ≤ o.1.length) (fun k => k = o.1.length) (fun k => o.1.length - k) (0) (Nat.zero_le _) (Ent.mk (.o rfl (by first | rfl | omega | (simp; done) | (simp; omega) | assumption) rfl <| .i rfl (by first | rfl | omega | (simp; done) | (simp; omega) | assumption) <| .k rfl rfl <| .k rfl rfl <| .k rfl rfl <| .nil) (.a (by first | rfl | omega | (simp; done) | (simp; omega) | assumption) (by first | rfl | omega | (simp; done) | (simp; omega) | assumption) <| .a seenB_nil (by first | rfl | omega | (simp; done) | (simp; omega) | assumption) <| .k rfl <| .nil) rfl) ?_ ?_
  · intro k hR0
    refine Tr.norm (S' := [⟨4, true, _, _⟩, ⟨17, true, _, _⟩, ⟨1, true, _, _⟩, ⟨3, true, _, _⟩, ⟨16, true, _, _⟩]) (M' := [⟨4, _, _⟩, ⟨13, _, _⟩, ⟨1, _, _⟩]) rfl rfl ?_
    have hcl := comps_len (o := o) (k := k)
    refine Tr.seq ?_
    refine Tr.rg ?_
    refine TrL.op (ok_lss rfl (fun _ => rfl) rfl (fun _ => rfl)) rfl rfl ?_
    refine TrL.fin ?_
    refine End.nxt ?_
    refine Tr.seq ?_
    refine Tr.cnd rfl ?_ ?_
    · intro h4
      replace h4 := of_decide_eq_true h4
      have hk : k < o.1.length := by omega
      have hsx := nth_seenB (S := (comps o k).flatten) hk
      refine Tr.skip ?_
      refine End.nxt ?_
      refine Tr.seq ?_
      refine Tr.blk ?_
      refine Tr.seq ?_
      refine Tr.rg ?_
      refine TrL.op (ok_move rfl (fun _ => rfl)) rfl rfl ?_
      refine TrL.op (ok_assign rfl (fun _ => rfl)) rfl rfl ?_
      refine TrL.fin ?_
      refine End.nxt ?_
      refine Tr.seq ?_
      refine Tr.seq ?_
      refine Tr.rg ?_
      refine TrL.op (ok_move rfl (fun _ => rfl)) rfl rfl ?_
      refine TrL.op (ok_move rfl (fun _ => rfl)) rfl rfl ?_
      first | refine TrL.op (ok_idxEN rfl (fun _ => rfl) rfl (fun _ => rfl) (fun _ => by omega)) rfl rfl ?_ | refine TrL.op (ok_idxE rfl (fun _ => rfl) rfl (fun _ => rfl) (fun _ => by omega)) rfl rfl ?_
      refine TrL.op (ok_ldE rfl (fun _ => rfl) rfl rfl rfl) rfl rfl ?_
      refine TrL.fin ?_
      refine End.nxt ?_
      refine Tr.cnd rfl ?_ ?_
      · intro h6
        rw [hsx] at h6
        have hm := of_decide_eq_true h6
        refine Tr.exit ?_
        refine Exs.thn ?_
        refine Exs.here ?_
        refine End.nxt ?_
        refine Tr.rg ?_
        refine TrL.op (ok_add rfl (fun _ => rfl) rfl (fun _ => rfl) (fun _ => by omega)) rfl rfl ?_
        refine TrL.op (ok_move rfl (fun _ => rfl)) rfl rfl ?_
        refine TrL.fin ?_
        exact End.lp (k + 1) (by first | rfl | omega | (simp; done) | (simp; omega) | assumption) (by omega) (Ent.mk (.o rfl (by rw [comps_in hm]) rfl <| .i rfl (by first | rfl | omega | (simp; done) | (simp; omega) | assumption) <| .k rfl rfl <| .k rfl rfl <| .k rfl rfl <| .nil) (.a (by rw [comps_in hm]) (by rw [comps_in hm]) <| .a (by rw [comps_in hm]) (by first | rfl | omega | (simp; done) | (simp; omega) | assumption) <| .k rfl <| .nil) rfl)
      · intro h6
        rw [hsx] at h6
        have hm := of_decide_eq_false h6
        refine Tr.skip ?_
        refine End.nxt ?_
        refine Tr.seq ?_
        refine Tr.rg ?_
        refine TrL.op (ok_move rfl (fun _ => rfl)) rfl rfl ?_
        refine TrL.op (ok_move rfl (fun _ => rfl)) rfl rfl ?_
        first | refine TrL.op (ok_idxEN rfl (fun _ => rfl) rfl (fun _ => rfl) (fun _ => by omega)) rfl rfl ?_ | refine TrL.op (ok_idxE rfl (fun _ => rfl) rfl (fun _ => rfl) (fun _ => by omega)) rfl rfl ?_
        refine TrL.stE rfl rfl rfl rfl rfl ?_
        refine TrL.fin ?_
        refine End.nxt ?_
        refine Tr.seq ?_
        refine Tr.rg ?_
        refine TrL.op (ok_move rfl (fun _ => rfl)) rfl rfl ?_
        refine TrL.new (ok_bsl eI 28 (fun hp => .cons rfl <| .nil) rfl rfl rfl rfl) rfl rfl rfl rfl ?_
        refine TrL.op (ok_assign rfl (fun _ => rfl)) rfl rfl ?_
        refine TrL.fin ?_
        refine End.nxt ?_
        refine Tr.seq ?_
        refine Tr.seq ?_
        refine Tr.rg ?_
        refine TrL.op (ok_assign rfl (fun _ => rfl)) rfl rfl ?_
        refine TrL.fin ?_
        refine End.nxt ?_
        refine Tr.for1 (σ := Nat) [⟨1, true, _, _⟩, ⟨3, true, _, _⟩, ⟨4, true, _, _⟩, ⟨16, true, _, _⟩, ⟨17, true, _, _⟩] [⟨1, _, _⟩, ⟨4, _, _⟩] (fun m => [⟨6, true, [28], kOsl 28 (bfsTo o (comps o k).flatten k m).length⟩, ⟨7, true, [], kI (m : Int)⟩]) (fun m => [⟨13, [], cArr false 4 eBool (seenB o.1.length ((comps o k).flatten ++ (bfsTo o (comps o k).flatten k m))) o.1.length⟩, ⟨28, [], cArr false 3 eI (bfsTo o (comps o k).flatten k m) (bfsTo o (comps o k).flatten k m).length⟩]) (fun m => m ≤ o.1.length) (fun m => (bfsTo o (comps o k).flatten k m).length ≤ m) (fun m => o.1.length - m) (0) (Nat.zero_le _) (Ent.mk (.o rfl (by first | rfl | omega | (simp; done) | (simp; omega) | assumption) rfl <| .i rfl (by first | rfl | omega | (simp; done) | (simp; omega) | assumption) <| .k rfl rfl <| .k rfl rfl <| .k rfl rfl <| .k rfl rfl <| .k rfl rfl <| .nil) (.a (seenB_set (by omega)) (by first | rfl | omega | (simp; done) | (simp; omega) | assumption) <| .a (by first | rfl | omega | (simp; done) | (simp; omega) | assumption) (by first | rfl | omega | (simp; done) | (simp; omega) | assumption) <| .k rfl <| .k rfl <| .nil) rfl) ?_ ?_
        · intro m hR1
          refine Tr.norm (S' := [⟨6, true, _, _⟩, ⟨7, true, _, _⟩, ⟨1, true, _, _⟩, ⟨3, true, _, _⟩, ⟨4, true, _, _⟩, ⟨16, true, _, _⟩, ⟨17, true, _, _⟩]) (M' := [⟨13, _, _⟩, ⟨28, _, _⟩, ⟨1, _, _⟩, ⟨4, _, _⟩]) rfl rfl ?_
          have hlen := bfsTo_len v (comps_start v (by omega) hm) m
          refine Tr.seq ?_
          refine Tr.seq ?_
          refine Tr.rg ?_
          refine TrL.op (ok_move rfl (fun _ => rfl)) rfl rfl ?_
          refine TrL.op (ok_move rfl (fun _ => rfl)) rfl rfl ?_
          refine TrL.op (ok_lenO rfl (fun _ => rfl)) rfl rfl ?_
          refine TrL.op (ok_lss rfl (fun _ => rfl) rfl (fun _ => rfl)) rfl rfl ?_
          refine TrL.fin ?_
          refine End.nxt ?_
          refine Tr.cnd rfl ?_ ?_
          · intro h10
            replace h10 := of_decide_eq_true h10
            have hlt : m < (bfsTo o (comps o k).flatten k m).length := by omega
            have hxr := srch_x v (comps_start v hk hm) hlt
            have hx0 := hxr.1
            have hx1 := hxr.2
            refine Tr.skip ?_
            refine End.nxt ?_
            refine Tr.seq ?_
            refine Tr.blk ?_
            refine Tr.seq ?_
            refine Tr.draw 18 mixed (by kernel_rfl) ?_
            refine RunD.op (ok_fldO rfl (fun _ => rfl)) rfl rfl ?_
            refine RunD.op (ok_ldB rfl (fun _ => rfl) rfl) rfl rfl ?_
            refine RunD.op (ok_move rfl (fun _ => rfl)) rfl rfl ?_
            refine RunD.op (ok_move rfl (fun _ => rfl)) rfl rfl ?_
            first | refine RunD.op (ok_idxEN rfl (fun _ => rfl) rfl (fun _ => rfl) (fun _ => by omega)) rfl rfl ?_ | refine RunD.op (ok_idxE rfl (fun _ => rfl) rfl (fun _ => rfl) (fun _ => by omega)) rfl rfl ?_
            refine RunD.op (ok_ldE rfl (fun _ => rfl) rfl rfl rfl) rfl rfl ?_
            first | refine RunD.op (ok_idxN rfl (fun _ => rfl) rfl (fun _ => rfl) rfl (fun _ => by omega)) rfl rfl ?_ | refine RunD.op (ok_idxP rfl (fun _ => rfl) rfl (fun _ => rfl) rfl (fun _ => by omega)) rfl rfl ?_
            refine RunD.op (ok_ldP rfl (fun _ => rfl) rfl) rfl rfl ?_
            refine RunD.op (ok_fldO rfl (fun _ => rfl)) rfl rfl ?_
            refine RunD.op (ok_ldB rfl (fun _ => rfl) rfl) rfl rfl ?_
            refine RunD.op (ok_move rfl (fun _ => rfl)) rfl rfl ?_
            refine RunD.op (ok_move rfl (fun _ => rfl)) rfl rfl ?_
            first | refine RunD.op (ok_idxEN rfl (fun _ => rfl) rfl (fun _ => rfl) (fun _ => by omega)) rfl rfl ?_ | refine RunD.op (ok_idxE rfl (fun _ => rfl) rfl (fun _ => rfl) (fun _ => by omega)) rfl rfl ?_
            refine RunD.op (ok_ldE rfl (fun _ => rfl) rfl rfl rfl) rfl rfl ?_
            first | refine RunD.op (ok_idxN rfl (fun _ => rfl) rfl (fun _ => rfl) rfl (fun _ => by omega)) rfl rfl ?_ | refine RunD.op (ok_idxP rfl (fun _ => rfl) rfl (fun _ => rfl) rfl (fun _ => by omega)) rfl rfl ?_
            refine RunD.op (ok_ldP rfl (fun _ => rfl) rfl) rfl rfl ?_
            refine RunD.op (ok_buildL [(0, 1), (1, 1)] rfl (fun hp => .cons rfl rfl rfl <| .cons rfl rfl rfl <| .nil)) rfl rfl ?_
            refine RunD.op (ok_move rfl (fun _ => rfl)) rfl rfl ?_
            refine RunD.z ?_
            refine TrL.fin ?_
            refine End.nxt ?_
            refine Tr.for1 (σ := Nat) [⟨1, true, _, _⟩, ⟨3, true, _, _⟩, ⟨4, true, _, _⟩, ⟨7, true, _, _⟩, ⟨16, true, _, _⟩, ⟨17, true, _, _⟩, ⟨51, true, _, _⟩] [⟨1, _, _⟩, ⟨4, _, _⟩] (fun j => [⟨6, true, [28], kOsl 28 (srch o (comps o k).flatten k m j).length⟩, ⟨52, true, [], kI (j : Int)⟩]) (fun j => [⟨13, [], cArr false 4 eBool (seenB o.1.length ((comps o k).flatten ++ (srch o (comps o k).flatten k m j))) o.1.length⟩, ⟨28, [], cArr false 3 eI (srch o (comps o k).flatten k m j) (srch o (comps o k).flatten k m j).length⟩]) (fun j => j ≤ 2) (fun j => j = 2) (fun j => 2 - j) (0) (by omega) (Ent.mk (.o rfl (by first | rfl | omega | (simp; done) | (simp; omega) | assumption) rfl <| .i rfl (by first | rfl | omega | (simp; done) | (simp; omega) | assumption) <| .k rfl rfl <| .k rfl rfl <| .k rfl rfl <| .k rfl rfl <| .k rfl rfl <| .k rfl rfl <| .k rfl rfl <| .nil) (.a (by first | rfl | omega | (simp; done) | (simp; omega) | assumption) (by first | rfl | omega | (simp; done) | (simp; omega) | assumption) <| .a (by first | rfl | omega | (simp; done) | (simp; omega) | assumption) (by first | rfl | omega | (simp; done) | (simp; omega) | assumption) <| .k rfl <| .k rfl <| .nil) rfl) ?_ ?_
            · intro j hR2
              refine Tr.norm (S' := [⟨6, true, _, _⟩, ⟨52, true, _, _⟩, ⟨1, true, _, _⟩, ⟨3, true, _, _⟩, ⟨4, true, _, _⟩, ⟨7, true, _, _⟩, ⟨16, true, _, _⟩, ⟨17, true, _, _⟩, ⟨51, true, _, _⟩]) (M' := [⟨13, _, _⟩, ⟨28, _, _⟩, ⟨1, _, _⟩, ⟨4, _, _⟩]) rfl rfl ?_
              have hgl := srch_len (j := j) v (comps_start v (by omega) hm) hlt
              have hyr := fun (hj : j < 2) => srch_y (j := j) v (comps_start v (by omega) hm) hlt hj
              refine Tr.seq ?_
              refine Tr.rg ?_
              refine TrL.op (ok_lss rfl (fun _ => rfl) rfl (fun _ => rfl)) rfl rfl ?_
              refine TrL.fin ?_
              refine End.nxt ?_
              refine Tr.seq ?_
              refine Tr.cnd rfl ?_ ?_
              · intro h13
                replace h13 := of_decide_eq_true h13
                have hy := hyr (by omega)
                have hyY : 0 ≤ nth [nth o.1 (nth (bfsTo o (comps o k).flatten k m) m).toNat, nth o.2 (nth (bfsTo o (comps o k).flatten k m) m).toNat] j ∧ nth [nth o.1 (nth (bfsTo o (comps o k).flatten k m) m).toNat, nth o.2 (nth (bfsTo o (comps o k).flatten k m) m).toNat] j < o.1.length := hy
                have hnn := nth_seenB' (S := (comps o k).flatten ++ srch o (comps o k).flatten k m j) hy.1 hy.2
                have hnn2 : nth (seenB o.1.length ((comps o k).flatten ++ srch o (comps o k).flatten k m j)) (nth [nth o.1 (nth (bfsTo o (comps o k).flatten k m) m).toNat, nth o.2 (nth (bfsTo o (comps o k).flatten k m) m).toNat] j).toNat = _ := hnn
                refine Tr.skip ?_
                refine End.nxt ?_
                refine Tr.seq ?_
                refine Tr.blk ?_
                refine Tr.seq ?_
                refine Tr.rg ?_
                refine TrL.op (ok_idxA eI rfl (fun _ => rfl) rfl (fun _ => rfl) rfl rfl (fun _ => ⟨by omega, by simp; omega⟩)) rfl rfl ?_
                refine TrL.op (ok_assign rfl (fun _ => rfl)) rfl rfl ?_
                refine TrL.fin ?_
                refine End.nxt ?_
                refine Tr.seq ?_
                refine Tr.rg ?_
                refine TrL.op (ok_move rfl (fun _ => rfl)) rfl rfl ?_
                refine TrL.op (ok_move rfl (fun _ => rfl)) rfl rfl ?_
                first | refine TrL.op (ok_idxEN rfl (fun _ => rfl) rfl (fun _ => rfl) (fun _ => by omega)) rfl rfl ?_ | refine TrL.op (ok_idxE rfl (fun _ => rfl) rfl (fun _ => rfl) (fun _ => by omega)) rfl rfl ?_
                refine TrL.op (ok_ldE rfl (fun _ => rfl) rfl rfl rfl) rfl rfl ?_
                refine TrL.op (ok_not rfl (fun _ => rfl)) rfl rfl ?_
                refine TrL.fin ?_
                refine End.nxt ?_
                refine Tr.cnd rfl ?_ ?_
                · intro h15
                  rw [hnn2] at h15
                  rw [Bool.not_eq_true'] at h15
                  have hnew := of_decide_eq_false h15
                  refine Tr.seq ?_
                  refine Tr.rg ?_
                  refine TrL.op (ok_move rfl (fun _ => rfl)) rfl rfl ?_
                  refine TrL.op (ok_move rfl (fun _ => rfl)) rfl rfl ?_
                  first | refine TrL.op (ok_idxEN rfl (fun _ => rfl) rfl (fun _ => rfl) (fun _ => by omega)) rfl rfl ?_ | refine TrL.op (ok_idxE rfl (fun _ => rfl) rfl (fun _ => rfl) (fun _ => by omega)) rfl rfl ?_
                  refine TrL.stE rfl rfl rfl rfl rfl ?_
                  refine TrL.fin ?_
                  refine End.nxt ?_
                  refine Tr.rg ?_
                  refine TrL.op (ok_move rfl (fun _ => rfl)) rfl rfl ?_
                  refine TrL.op (ok_move rfl (fun _ => rfl)) rfl rfl ?_
                  refine TrL.new (ok_bsl eI 65 (fun hp => .cons rfl <| .nil) rfl rfl rfl rfl) rfl rfl rfl rfl ?_
                  refine TrL.app rfl rfl rfl rfl rfl rfl rfl rfl (by first | omega | (simp only [List.length_cons, List.length_nil]; omega)) (by first | omega | (simp only [List.length_cons, List.length_nil]; omega)) ?_
                  refine TrL.norm (S' := [⟨_, _, _, _⟩, ⟨_, _, _, _⟩, ⟨_, _, _, _⟩, ⟨_, _, _, _⟩, ⟨_, _, _, _⟩, ⟨_, _, _, _⟩, ⟨_, _, _, _⟩, ⟨_, _, _, _⟩, ⟨_, _, _, _⟩, ⟨_, _, _, _⟩, ⟨_, _, _, _⟩, ⟨_, _, _, _⟩, ⟨_, _, _, _⟩, ⟨_, _, _, _⟩, ⟨_, _, _, _⟩, ⟨_, _, _, _⟩, ⟨_, _, _, _⟩, ⟨_, _, _, _⟩, ⟨_, _, _, _⟩, ⟨_, _, _, _⟩, ⟨_, _, _, _⟩, ⟨_, _, _, _⟩, ⟨_, _, _, _⟩, ⟨_, _, _, _⟩]) rfl rfl ?_
                  refine TrL.op (ok_assign rfl (fun _ => rfl)) rfl rfl ?_
                  refine TrL.fin ?_
                  refine End.blk ?_
                  refine End.nxt ?_
                  refine Tr.rg ?_
                  refine TrL.op (ok_add rfl (fun _ => rfl) rfl (fun _ => rfl) (fun _ => by omega)) rfl rfl ?_
                  refine TrL.op (ok_move rfl (fun _ => rfl)) rfl rfl ?_
                  refine TrL.fin ?_
                  exact End.lp (j + 1) (by first | rfl | omega | (simp; done) | (simp; omega) | assumption) (by omega) (Ent.mk (.o rfl (by rw [srch_new (by omega) hnew, List.length_append]; rfl) rfl <| .i rfl (by first | rfl | omega | (simp; done) | (simp; omega) | assumption) <| .k rfl rfl <| .k rfl rfl <| .k rfl rfl <| .k rfl rfl <| .k rfl rfl <| .k rfl rfl <| .k rfl rfl <| .nil) (.a (by rw [srch_new (by omega) hnew, ← List.append_assoc]; exact seenB_set (x := nth (stp o (nth (bfsTo o (comps o k).flatten k m) m)) j) hy.1) (by first | rfl | omega | (simp; done) | (simp; omega) | assumption) <| .a (by rw [srch_new (by omega) hnew]; rfl) (by rw [srch_new (by omega) hnew, List.length_append]; rfl) <| .k rfl <| .k rfl <| .nil) rfl)
                · intro h15
                  rw [hnn2] at h15
                  rw [Bool.not_eq_false'] at h15
                  have hold := of_decide_eq_true h15
                  refine Tr.skip ?_
                  refine End.blk ?_
                  refine End.nxt ?_
                  refine Tr.rg ?_
                  refine TrL.op (ok_add rfl (fun _ => rfl) rfl (fun _ => rfl) (fun _ => by omega)) rfl rfl ?_
                  refine TrL.op (ok_move rfl (fun _ => rfl)) rfl rfl ?_
                  refine TrL.fin ?_
                  exact End.lp (j + 1) (by first | rfl | omega | (simp; done) | (simp; omega) | assumption) (by omega) (Ent.mk (.o rfl (by rw [srch_in (by omega) hold]) rfl <| .i rfl (by first | rfl | omega | (simp; done) | (simp; omega) | assumption) <| .k rfl rfl <| .k rfl rfl <| .k rfl rfl <| .k rfl rfl <| .k rfl rfl <| .k rfl rfl <| .k rfl rfl <| .nil) (.a (by rw [srch_in (by omega) hold]) (by first | rfl | omega | (simp; done) | (simp; omega) | assumption) <| .a (by rw [srch_in (by omega) hold]) (by rw [srch_in (by omega) hold]) <| .k rfl <| .k rfl <| .nil) rfl)
              · intro h13
                replace h13 := Int.not_lt.1 (of_decide_eq_false h13)
                refine Tr.exit ?_
                refine Exs.thn ?_
                refine Exs.thn ?_
                refine Exs.here ?_
                exact End.cut (j) (by omega) (Ent.mk (.o rfl (by first | rfl | omega | (simp; done) | (simp; omega) | assumption) rfl <| .i rfl (by first | rfl | omega | (simp; done) | (simp; omega) | assumption) <| .k rfl rfl <| .k rfl rfl <| .k rfl rfl <| .k rfl rfl <| .k rfl rfl <| .k rfl rfl <| .k rfl rfl <| .nil) (.a (by first | rfl | omega | (simp; done) | (simp; omega) | assumption) (by first | rfl | omega | (simp; done) | (simp; omega) | assumption) <| .a (by first | rfl | omega | (simp; done) | (simp; omega) | assumption) (by first | rfl | omega | (simp; done) | (simp; omega) | assumption) <| .k rfl <| .k rfl <| .nil) rfl)
            · rintro _ rfl
              refine End.norm (S' := [⟨6, true, _, _⟩, ⟨52, true, _, _⟩, ⟨1, true, _, _⟩, ⟨3, true, _, _⟩, ⟨4, true, _, _⟩, ⟨7, true, _, _⟩, ⟨16, true, _, _⟩, ⟨17, true, _, _⟩, ⟨51, true, _, _⟩]) (M' := [⟨13, _, _⟩, ⟨28, _, _⟩, ⟨1, _, _⟩, ⟨4, _, _⟩]) rfl rfl ?_
              refine End.blk ?_
              refine End.nxt ?_
              refine Tr.rg ?_
              refine TrL.op (ok_move rfl (fun _ => rfl)) rfl rfl ?_
              refine TrL.op (ok_add rfl (fun _ => rfl) rfl (fun _ => rfl) (fun _ => by omega)) rfl rfl ?_
              refine TrL.op (ok_assign rfl (fun _ => rfl)) rfl rfl ?_
              refine TrL.fin ?_
              exact End.lp (m + 1) (by first | rfl | omega | (simp; done) | (simp; omega) | assumption) (by omega) (Ent.mk (.o rfl (by rw [srch_two hlt]) rfl <| .i rfl (by first | rfl | omega | (simp; done) | (simp; omega) | assumption) <| .k rfl rfl <| .k rfl rfl <| .k rfl rfl <| .k rfl rfl <| .k rfl rfl <| .nil) (.a (by rw [srch_two hlt]) (by first | rfl | omega | (simp; done) | (simp; omega) | assumption) <| .a (by rw [srch_two hlt]) (by rw [srch_two hlt]) <| .k rfl <| .k rfl <| .nil) rfl)
          · intro h10
            replace h10 := Int.not_lt.1 (of_decide_eq_false h10)
            refine Tr.exit ?_
            refine Exs.thn ?_
            refine Exs.thn ?_
            refine Exs.here ?_
            exact End.cut (m) (by omega) (Ent.mk (.o rfl (by first | rfl | omega | (simp; done) | (simp; omega) | assumption) rfl <| .i rfl (by first | rfl | omega | (simp; done) | (simp; omega) | assumption) <| .k rfl rfl <| .k rfl rfl <| .k rfl rfl <| .k rfl rfl <| .k rfl rfl <| .nil) (.a (by first | rfl | omega | (simp; done) | (simp; omega) | assumption) (by first | rfl | omega | (simp; done) | (simp; omega) | assumption) <| .a (by first | rfl | omega | (simp; done) | (simp; omega) | assumption) (by first | rfl | omega | (simp; done) | (simp; omega) | assumption) <| .k rfl <| .k rfl <| .nil) rfl)
        · intro m hE1
          refine End.norm (S' := [⟨6, true, _, _⟩, ⟨7, true, _, _⟩, ⟨1, true, _, _⟩, ⟨3, true, _, _⟩, ⟨4, true, _, _⟩, ⟨16, true, _, _⟩, ⟨17, true, _, _⟩]) (M' := [⟨13, _, _⟩, ⟨28, _, _⟩, ⟨1, _, _⟩, ⟨4, _, _⟩]) rfl rfl ?_
          have hb := (bfs_of v (comps_start v hk hm) hE1).trans (comps_bfs v hk hm)
          have hlb := bfsTo_len v (comps_start v hk hm) m
          have hpb := bfsTo_pos (o := o) (F := (comps o k).flatten) (s := k) (k := m)
          refine End.nxt ?_
          refine Tr.seq ?_
          refine Tr.rg ?_
          refine TrL.op (ok_move rfl (fun _ => rfl)) rfl rfl ?_
          refine TrL.mut (ctb_srt (by omega) (by omega)) rfl (.nil) (fun _ _ _ _ h => h) (fun _ _ h => by have h2 : _ = 0 := h.2; omega) (fun h => h) rfl ?_
          refine TrL.fin ?_
          refine End.nxt ?_
          refine Tr.rg ?_
          refine TrL.op (ok_move rfl (fun _ => rfl)) rfl rfl ?_
          refine TrL.frz 28 [6, 68] ⟨rfl, rfl, trivial⟩ (by simp only [lenMax]; omega) rfl ?_
          refine TrL.norm (S' := [⟨_, _, _, _⟩, ⟨_, _, _, _⟩, ⟨_, _, _, _⟩, ⟨_, _, _, _⟩, ⟨_, _, _, _⟩, ⟨_, _, _, _⟩, ⟨_, _, _, _⟩, ⟨_, _, _, _⟩, ⟨_, _, _, _⟩, ⟨_, _, _, _⟩, ⟨_, _, _, _⟩, ⟨_, _, _, _⟩]) rfl rfl ?_
          refine TrL.op (ok_move rfl (fun _ => rfl)) rfl rfl ?_
          refine TrL.new (ok_bsl (eL eI) 72 (fun hp => .cons rfl <| .nil) rfl rfl rfl rfl) rfl rfl rfl rfl ?_
          refine TrL.app rfl rfl rfl rfl rfl rfl rfl rfl (by first | omega | (simp only [List.length_cons, List.length_nil]; omega)) (by first | omega | (simp only [List.length_cons, List.length_nil]; omega)) ?_
          refine TrL.norm (S' := [⟨_, _, _, _⟩, ⟨_, _, _, _⟩, ⟨_, _, _, _⟩, ⟨_, _, _, _⟩, ⟨_, _, _, _⟩, ⟨_, _, _, _⟩, ⟨_, _, _, _⟩, ⟨_, _, _, _⟩, ⟨_, _, _, _⟩, ⟨_, _, _, _⟩, ⟨_, _, _, _⟩, ⟨_, _, _, _⟩, ⟨_, _, _, _⟩, ⟨_, _, _, _⟩, ⟨_, _, _, _⟩]) rfl rfl ?_
          refine TrL.op (ok_assign rfl (fun _ => rfl)) rfl rfl ?_
          refine TrL.fin ?_
          refine End.blk ?_
          refine End.nxt ?_
          refine Tr.rg ?_
          refine TrL.op (ok_add rfl (fun _ => rfl) rfl (fun _ => rfl) (fun _ => by omega)) rfl rfl ?_
          refine TrL.op (ok_move rfl (fun _ => rfl)) rfl rfl ?_
          refine TrL.fin ?_
          exact End.lp (k + 1) (by first | rfl | omega | (simp; done) | (simp; omega) | assumption) (by omega) (Ent.mk (.o rfl (by rw [comps_new hm, List.length_append]; rfl) rfl <| .i rfl (by first | rfl | omega | (simp; done) | (simp; omega) | assumption) <| .k rfl rfl <| .k rfl rfl <| .k rfl rfl <| .nil) (.a (by rw [comps_new hm, hb, sort_asc (reach_good v (Sq.nat hk))]; rfl) (by rw [comps_new hm, List.length_append]; rfl) <| .a (by rw [hb, comps_new hm]; exact seenB_congr (fun x hx => by simp [mem_compL v (Sq.nat hk)])) (by first | rfl | omega | (simp; done) | (simp; omega) | assumption) <| .k rfl <| .nil) rfl)
    · intro h4
      replace h4 := Int.not_lt.1 (of_decide_eq_false h4)
      refine Tr.exit ?_
      refine Exs.thn ?_
      refine Exs.thn ?_
      refine Exs.here ?_
      exact End.cut (k) (by omega) (Ent.mk (.o rfl (by first | rfl | omega | (simp; done) | (simp; omega) | assumption) rfl <| .i rfl (by first | rfl | omega | (simp; done) | (simp; omega) | assumption) <| .k rfl rfl <| .k rfl rfl <| .k rfl rfl <| .nil) (.a (by first | rfl | omega | (simp; done) | (simp; omega) | assumption) (by first | rfl | omega | (simp; done) | (simp; omega) | assumption) <| .a (by first | rfl | omega | (simp; done) | (simp; omega) | assumption) (by first | rfl | omega | (simp; done) | (simp; omega) | assumption) <| .k rfl <| .nil) rfl)
  · rintro _ rfl
    refine End.norm (S' := [⟨4, true, _, _⟩, ⟨17, true, _, _⟩, ⟨1, true, _, _⟩, ⟨3, true, _, _⟩, ⟨16, true, _, _⟩]) (M' := [⟨4, _, _⟩, ⟨13, _, _⟩, ⟨1, _, _⟩]) rfl rfl ?_
    have hcl := comps_len (o := o) (k := o.1.length)
    refine End.nxt ?_
    refine Tr.seq ?_
    refine Tr.rg ?_
    refine TrL.op (ok_move rfl (fun _ => rfl)) rfl rfl ?_
    refine TrL.op (ok_assign rfl (fun _ => rfl)) rfl rfl ?_
    refine TrL.fin ?_
    refine End.nxt ?_
    refine Tr.frz 4 [2] ⟨rfl, trivial⟩ (by simp only [lenMax]; omega) rfl ?_
    refine Tr.ret ?_
    exact Rts.res1 (fn := Tryz.f54) rfl (.r rfl (by first | rfl | omega | (simp; done) | (simp; omega) | assumption) <| .nil)

end Go.Fl

/- Contracts: labels; the reference. -/
namespace Go.Fl
open Go Go.Proofs

set_option maxRecDepth 100000 in
theorem ct_connected (l : List Ori) : Ct Tryz.prog 31 [kRd (eL eO) l] (kI (connE l)) := by
  refine Ct.mk Tryz.func31 rfl Tryz.ntmps31 rfl (fun w J => ?_)
  refine Tr.fact (s := 0) rfl (fun _ _ h => lenB h) (fun hb => ?_)
  refine Tr.seq ?_
  refine Tr.rg ?_
  refine TrL.op (ok_assign rfl (fun _ => rfl)) rfl rfl ?_
  refine TrL.fin ?_
  refine End.nxt ?_
  refine Tr.seq ?_
  refine Tr.seq ?_
  refine Tr.rg ?_
  refine TrL.op (ok_move rfl (fun _ => rfl)) rfl rfl ?_
  refine TrL.op (ok_lenJ rfl (fun _ => rfl)) rfl rfl ?_
  refine TrL.op (ok_move rfl (fun _ => rfl)) rfl rfl ?_
  refine TrL.fin ?_
  refine End.nxt ?_
  refine Tr.for1 (σ := Nat) [⟨0, true, _, _⟩, ⟨8, true, _, _⟩, ⟨9, true, _, _⟩] [] (fun k => [⟨10, true, [], kI (k : Int)⟩]) (fun k => []) (fun k => k ≤ l.length ∧ ∀ i, i < k → chkO (nth l i) = 0) (fun k => ∀ i, i < l.length → chkO (nth l i) = 0) (fun k => l.length - k) (0) ⟨Nat.zero_le _, fun i h => absurd h (by omega)⟩ (Ent.mk (.i rfl (by first | rfl | omega | (simp; done) | (simp; omega) | assumption) <| .k rfl rfl <| .k rfl rfl <| .k rfl rfl <| .nil) (.nil) rfl) ?_ ?_
  · rintro k ⟨hk0, hR0⟩
    refine Tr.norm (S' := [⟨10, true, _, _⟩, ⟨0, true, _, _⟩, ⟨8, true, _, _⟩, ⟨9, true, _, _⟩]) (M' := []) rfl rfl ?_
    refine Tr.seq ?_
    refine Tr.rg ?_
    refine TrL.op (ok_lss rfl (fun _ => rfl) rfl (fun _ => rfl)) rfl rfl ?_
    refine TrL.fin ?_
    refine End.nxt ?_
    refine Tr.seq ?_
    refine Tr.cnd rfl ?_ ?_
    · intro h2
      replace h2 := of_decide_eq_true h2
      refine Tr.skip ?_
      refine End.nxt ?_
      refine Tr.seq ?_
      refine Tr.blk ?_
      refine Tr.seq ?_
      refine Tr.rg ?_
      first | refine TrL.op (ok_idxN rfl (fun _ => rfl) rfl (fun _ => rfl) rfl (fun _ => by omega)) rfl rfl ?_ | refine TrL.op (ok_idxP rfl (fun _ => rfl) rfl (fun _ => rfl) rfl (fun _ => by omega)) rfl rfl ?_
      refine TrL.op (ok_ldPA rfl (fun _ => rfl) rfl rfl) rfl rfl ?_
      refine TrL.new (ok_alloc 4) rfl rfl rfl rfl ?_
      refine TrL.stB rfl rfl rfl rfl ?_
      refine TrL.fin ?_
      refine End.nxt ?_
      refine Tr.seq ?_
      refine Tr.rg ?_
      refine TrL.op (ok_ldBS rfl (fun _ => rfl)) rfl rfl ?_
      refine TrL.op (ok_call (fun hp => ct_oCheck _) (.s rfl (fun _ => rfl) rfl <| .nil)) rfl rfl ?_
      refine TrL.op (ok_assign rfl (fun _ => rfl)) rfl rfl ?_
      refine TrL.fin ?_
      refine End.nxt ?_
      refine Tr.seq ?_
      refine Tr.rg ?_
      refine TrL.op (ok_move rfl (fun _ => rfl)) rfl rfl ?_
      refine TrL.op (ok_neq rfl (fun _ => rfl) rfl (fun _ => rfl)) rfl rfl ?_
      refine TrL.fin ?_
      refine End.nxt ?_
      refine Tr.cnd rfl ?_ ?_
      · intro h5
        replace h5 := of_decide_eq_true h5
        refine Tr.seq ?_
        refine Tr.rg ?_
        refine TrL.op (ok_move rfl (fun _ => rfl)) rfl rfl ?_
        refine TrL.op (ok_assign rfl (fun _ => rfl)) rfl rfl ?_
        refine TrL.fin ?_
        refine End.nxt ?_
        refine Tr.ret ?_
        refine Rts.out ?_
        refine Rts.thn ?_
        refine Rts.thn ?_
        refine Rts.out ?_
        refine Rts.thn ?_
        refine Rts.thn ?_
        exact Rts.res1 (fn := Tryz.f31) rfl (.i rfl (by unfold connE; rw [orE_l (by rw [fstE_at (k := k) (by rw [List.length_map]; omega) (fun i hi => by rw [nth_map (by omega)]; exact hR0 i hi) (by rw [nth_map (by omega)]; exact h5), nth_map (by omega)]; exact h5), fstE_at (k := k) (by rw [List.length_map]; omega) (fun i hi => by rw [nth_map (by omega)]; exact hR0 i hi) (by rw [nth_map (by omega)]; exact h5), nth_map (by omega)]) <| .nil)
      · intro h5
        replace h5 := Classical.not_not.1 (of_decide_eq_false h5)
        refine Tr.skip ?_
        refine End.blk ?_
        refine End.nxt ?_
        refine Tr.rg ?_
        refine TrL.op (ok_add rfl (fun _ => rfl) rfl (fun _ => rfl) (fun _ => by omega)) rfl rfl ?_
        refine TrL.op (ok_move rfl (fun _ => rfl)) rfl rfl ?_
        refine TrL.fin ?_
        exact End.lp (k + 1) ⟨by omega, all_succ hR0 h5⟩ (by omega) (Ent.mk (.i rfl (by first | rfl | omega | (simp; done) | (simp; omega) | assumption) <| .k rfl rfl <| .k rfl rfl <| .k rfl rfl <| .nil) (.nil) rfl)
    · intro h2
      replace h2 := Int.not_lt.1 (of_decide_eq_false h2)
      refine Tr.exit ?_
      refine Exs.thn ?_
      refine Exs.thn ?_
      refine Exs.here ?_
      exact End.cut (k) (fun i hi => hR0 i (by omega)) (Ent.mk (.i rfl (by first | rfl | omega | (simp; done) | (simp; omega) | assumption) <| .k rfl rfl <| .k rfl rfl <| .k rfl rfl <| .nil) (.nil) rfl)
  · intro k hE0
    refine End.norm (S' := [⟨10, true, _, _⟩, ⟨0, true, _, _⟩, ⟨8, true, _, _⟩, ⟨9, true, _, _⟩]) (M' := []) rfl rfl ?_
    refine End.nxt ?_
    refine Tr.seq ?_
    refine Tr.seq ?_
    refine Tr.rg ?_
    refine TrL.op (ok_move rfl (fun _ => rfl)) rfl rfl ?_
    refine TrL.op (ok_lenJ rfl (fun _ => rfl)) rfl rfl ?_
    refine TrL.op (ok_move rfl (fun _ => rfl)) rfl rfl ?_
    refine TrL.fin ?_
    refine End.nxt ?_
    refine Tr.for1 (σ := Nat) [⟨20, true, _, _⟩, ⟨21, true, _, _⟩] [] (fun k => [⟨22, true, [], kI (k : Int)⟩]) (fun k => []) (fun k => k ≤ l.length ∧ ∀ i, i < k → splE (nth l i) = 0) (fun k => ∀ i, i < l.length → splE (nth l i) = 0) (fun k => l.length - k) (0) ⟨Nat.zero_le _, fun i h => absurd h (by omega)⟩ (Ent.mk (.i rfl (by first | rfl | omega | (simp; done) | (simp; omega) | assumption) <| .k rfl rfl <| .k rfl rfl <| .nil) (.nil) rfl) ?_ ?_
    · rintro k ⟨hk1, hR1⟩
      refine Tr.norm (S' := [⟨22, true, _, _⟩, ⟨20, true, _, _⟩, ⟨21, true, _, _⟩]) (M' := []) rfl rfl ?_
      refine Tr.seq ?_
      refine Tr.rg ?_
      refine TrL.op (ok_lss rfl (fun _ => rfl) rfl (fun _ => rfl)) rfl rfl ?_
      refine TrL.fin ?_
      refine End.nxt ?_
      refine Tr.seq ?_
      refine Tr.cnd rfl ?_ ?_
      · intro h9
        replace h9 := of_decide_eq_true h9
        refine Tr.skip ?_
        refine End.nxt ?_
        refine Tr.seq ?_
        refine Tr.blk ?_
        refine Tr.seq ?_
        refine Tr.rg ?_
        first | refine TrL.op (ok_idxN rfl (fun _ => rfl) rfl (fun _ => rfl) rfl (fun _ => by omega)) rfl rfl ?_ | refine TrL.op (ok_idxP rfl (fun _ => rfl) rfl (fun _ => rfl) rfl (fun _ => by omega)) rfl rfl ?_
        refine TrL.op (ok_ldPA rfl (fun _ => rfl) rfl rfl) rfl rfl ?_
        refine TrL.new (ok_alloc 7) rfl rfl rfl rfl ?_
        refine TrL.stB rfl rfl rfl rfl ?_
        refine TrL.fin ?_
        refine End.nxt ?_
        refine Tr.seq ?_
        refine Tr.rg ?_
        refine TrL.op (ok_ldBS rfl (fun _ => rfl)) rfl rfl ?_
        refine TrL.op (ok_call (fun hp => ct_components _ (valid_of (hE0 k (by omega)))) (.s rfl (fun _ => rfl) rfl <| .nil)) rfl rfl ?_
        refine TrL.op (ok_lenJ rfl (fun _ => rfl)) rfl rfl ?_
        refine TrL.op (ok_gtr rfl (fun _ => rfl) rfl (fun _ => rfl)) rfl rfl ?_
        refine TrL.fin ?_
        refine End.nxt ?_
        refine Tr.cnd rfl ?_ ?_
        · intro h11
          replace h11 := of_decide_eq_true h11
          refine Tr.seq ?_
          refine Tr.rg ?_
          refine TrL.op (ok_assign rfl (fun _ => rfl)) rfl rfl ?_
          refine TrL.fin ?_
          refine End.nxt ?_
          refine Tr.ret ?_
          refine Rts.out ?_
          refine Rts.thn ?_
          refine Rts.thn ?_
          refine Rts.out ?_
          refine Rts.thn ?_
          refine Rts.thn ?_
          exact Rts.res1 (fn := Tryz.f31) rfl (.i rfl (by unfold connE; rw [orE_r (fstE_zero (fun i hi => by rw [List.length_map] at hi; rw [nth_map hi]; exact hE0 i hi)), fstE_at (k := k) (by rw [List.length_map]; omega) (fun i hi => by rw [nth_map (by omega)]; exact hR1 i hi) (by rw [nth_map (by omega), splE_pos (by omega)]; omega), nth_map (by omega), splE_pos (by omega)]) <| .nil)
        · intro h11
          replace h11 := Int.not_lt.1 (of_decide_eq_false h11)
          refine Tr.skip ?_
          refine End.blk ?_
          refine End.nxt ?_
          refine Tr.rg ?_
          refine TrL.op (ok_add rfl (fun _ => rfl) rfl (fun _ => rfl) (fun _ => by omega)) rfl rfl ?_
          refine TrL.op (ok_move rfl (fun _ => rfl)) rfl rfl ?_
          refine TrL.fin ?_
          exact End.lp (k + 1) ⟨by omega, all_succ hR1 (splE_zero (by omega))⟩ (by omega) (Ent.mk (.i rfl (by first | rfl | omega | (simp; done) | (simp; omega) | assumption) <| .k rfl rfl <| .k rfl rfl <| .nil) (.nil) rfl)
      · intro h9
        replace h9 := Int.not_lt.1 (of_decide_eq_false h9)
        refine Tr.exit ?_
        refine Exs.thn ?_
        refine Exs.thn ?_
        refine Exs.here ?_
        exact End.cut (k) (fun i hi => hR1 i (by omega)) (Ent.mk (.i rfl (by first | rfl | omega | (simp; done) | (simp; omega) | assumption) <| .k rfl rfl <| .k rfl rfl <| .nil) (.nil) rfl)
    · intro k hE1
      refine End.norm (S' := [⟨22, true, _, _⟩, ⟨20, true, _, _⟩, ⟨21, true, _, _⟩]) (M' := []) rfl rfl ?_
      refine End.nxt ?_
      refine Tr.seq ?_
      refine Tr.rg ?_
      refine TrL.op (ok_assign rfl (fun _ => rfl)) rfl rfl ?_
      refine TrL.fin ?_
      refine End.nxt ?_
      refine Tr.ret ?_
      exact Rts.res1 (fn := Tryz.f31) rfl (.i rfl (by unfold connE; rw [orE_r (fstE_zero (fun i hi => by rw [List.length_map] at hi; rw [nth_map hi]; exact hE0 i hi)), fstE_zero (fun i hi => by rw [List.length_map] at hi; rw [nth_map hi]; exact hE1 i hi)]) <| .nil)

set_option maxRecDepth 100000 in
theorem ct_oLabel (o : Ori) : Ct Tryz.prog 13 [kRd eO o] (kTup [kRd eO (if chk1 o = 0 then lblO o else ([], [])), kRd (eL eI) (if chk1 o = 0 then lblF o else []), kI (chk1 o)]) := by
  refine Ct.mk Tryz.func13 rfl Tryz.ntmps13 rfl (fun w J => ?_)
  refine Tr.seq ?_
  refine Tr.rg ?_
  refine TrL.new (ok_box 1 rfl (fun _ => rfl) rfl) rfl rfl rfl rfl ?_
  refine TrL.new (ok_alloc 2) rfl rfl rfl rfl ?_
  refine TrL.op (ok_assign rfl (fun _ => rfl)) rfl rfl ?_
  refine TrL.op (ok_assign rfl (fun _ => rfl)) rfl rfl ?_
  refine TrL.fin ?_
  refine End.nxt ?_
  refine Tr.seq ?_
  refine Tr.seq ?_
  refine Tr.rg ?_
  refine TrL.op (ok_ldBS rfl (fun _ => rfl)) rfl rfl ?_
  refine TrL.op (ok_bslJ eO (fun hp => .cons rfl <| .nil) rfl rfl rfl rfl) rfl rfl ?_
  refine TrL.op (ok_call (fun hp => ct_connected [o]) (.a rfl (fun _ => rfl) <| .nil)) rfl rfl ?_
  refine TrL.op (ok_assign rfl (fun _ => rfl)) rfl rfl ?_
  refine TrL.fin ?_
  refine End.nxt ?_
  refine Tr.seq ?_
  refine Tr.rg ?_
  refine TrL.op (ok_move rfl (fun _ => rfl)) rfl rfl ?_
  refine TrL.op (ok_neq rfl (fun _ => rfl) rfl (fun _ => rfl)) rfl rfl ?_
  refine TrL.fin ?_
  refine End.nxt ?_
  refine Tr.cnd rfl ?_ ?_
  · intro h2
    replace h2 := of_decide_eq_true h2
    rw [connE_one] at h2
    refine Tr.seq ?_
    refine Tr.rg ?_
    refine TrL.op (ok_build (fun hp => .nil)) rfl rfl ?_
    refine TrL.op (ok_move rfl (fun _ => rfl)) rfl rfl ?_
    refine TrL.stB rfl rfl rfl rfl ?_
    refine TrL.op (ok_assign rfl (fun _ => rfl)) rfl rfl ?_
    refine TrL.op (ok_assign rfl (fun _ => rfl)) rfl rfl ?_
    refine TrL.fin ?_
    refine End.nxt ?_
    refine Tr.ret ?_
    refine Rts.thn ?_
    exact Rts.resC (fn := Tryz.f13) (ts := [3, 4]) rfl rfl rfl (aggRd rfl (by rw [if_neg h2])) (.n rfl (by rw [if_neg h2]) <| .i rfl (by rw [connE_one]) <| .nil)
  · intro h2
    replace h2 := Classical.not_not.1 (of_decide_eq_false h2)
    rw [connE_one] at h2
    obtain ⟨v, cn⟩ := chk1_zero h2
    have hv0 := v.pos
    have hv1 := v.len
    have hv2 := v.le
    refine Tr.skip ?_
    refine End.nxt ?_
    refine Tr.seq ?_
    refine Tr.rg ?_
    refine TrL.new (ok_alloc 6) rfl rfl rfl rfl ?_
    refine TrL.fin ?_
    refine End.nxt ?_
    refine Tr.seq ?_
    refine Tr.rg ?_
    refine TrL.op (ok_assign rfl (fun _ => rfl)) rfl rfl ?_
    refine TrL.fin ?_
    refine End.nxt ?_
    refine Tr.seq ?_
    refine Tr.seq ?_
    refine Tr.rg ?_
    refine TrL.op (ok_fldO rfl (fun _ => rfl)) rfl rfl ?_
    refine TrL.op (ok_ldB rfl (fun _ => rfl) rfl) rfl rfl ?_
    refine TrL.op (ok_lenJ rfl (fun _ => rfl)) rfl rfl ?_
    refine TrL.op (ok_move rfl (fun _ => rfl)) rfl rfl ?_
    refine TrL.fin ?_
    refine End.nxt ?_
    refine Tr.for1 (σ := Nat) [⟨1, true, _, _⟩, ⟨2, true, _, _⟩, ⟨6, true, _, _⟩, ⟨20, true, _, _⟩] [⟨1, _, _⟩, ⟨2, _, _⟩] (fun k => [⟨7, true, [], kRn eI (byL o k)⟩, ⟨21, true, [], kI (k : Int)⟩]) (fun k => [⟨6, [], cBlk [kRd (eL eI) (bst o k).1, kRd (eL eI) (bst o k).2]⟩]) (fun k => k ≤ o.1.length) (fun k => k = o.1.length) (fun k => o.1.length - k) (0) (Nat.zero_le _) (Ent.mk (.conv rfl rfl (fun _ _ h => nil_rn h) rfl <| .i rfl (by first | rfl | omega | (simp; done) | (simp; omega) | assumption) <| .k rfl rfl <| .k rfl rfl <| .k rfl rfl <| .k rfl rfl <| .nil) (.conv (fun _ _ _ h => blk_nil2 h) rfl <| .k rfl <| .k rfl <| .nil) rfl) ?_ ?_
    · intro k hR0
      refine Tr.norm (S' := [⟨7, true, _, _⟩, ⟨21, true, _, _⟩, ⟨1, true, _, _⟩, ⟨2, true, _, _⟩, ⟨6, true, _, _⟩, ⟨20, true, _, _⟩]) (M' := [⟨6, _, _⟩, ⟨1, _, _⟩, ⟨2, _, _⟩]) rfl rfl ?_
      refine Tr.seq ?_
      refine Tr.rg ?_
      refine TrL.op (ok_lss rfl (fun _ => rfl) rfl (fun _ => rfl)) rfl rfl ?_
      refine TrL.fin ?_
      refine End.nxt ?_
      refine Tr.seq ?_
      refine Tr.cnd rfl ?_ ?_
      · intro h7
        replace h7 := of_decide_eq_true h7
        have hks : Sq o.1.length (k : Int) := Sq.nat (by omega)
        refine Tr.skip ?_
        refine End.nxt ?_
        refine Tr.seq ?_
        refine Tr.blk ?_
        refine Tr.seq ?_
        refine Tr.rg ?_
        refine TrL.op (ok_move rfl (fun _ => rfl)) rfl rfl ?_
        refine TrL.op (ok_assign rfl (fun _ => rfl)) rfl rfl ?_
        refine TrL.fin ?_
        refine End.nxt ?_
        refine Tr.seq ?_
        refine Tr.rg ?_
        refine TrL.op (ok_ldBS rfl (fun _ => rfl)) rfl rfl ?_
        refine TrL.op (ok_move rfl (fun _ => rfl)) rfl rfl ?_
        refine TrL.op (ok_call (fun hp => ct_numbering _ _ v hks) (.s rfl (fun _ => rfl) rfl <| .a rfl (fun _ => rfl) <| .nil)) rfl rfl ?_
        refine TrL.op (ok_assign rfl (fun _ => rfl)) rfl rfl ?_
        refine TrL.fin ?_
        refine End.nxt ?_
        refine Tr.seq ?_
        refine Tr.rg ?_
        refine TrL.op (ok_ldBS rfl (fun _ => rfl)) rfl rfl ?_
        refine TrL.op (ok_move rfl (fun _ => rfl)) rfl rfl ?_
        refine TrL.op (ok_call (fun hp => ct_renumbered _ _ v numL_len (numL_rng v cn hks)) (.s rfl (fun _ => rfl) rfl <| .a rfl (fun _ => rfl) <| .nil)) rfl rfl ?_
        refine TrL.new (ok_alloc 10) rfl rfl rfl rfl ?_
        refine TrL.stB rfl rfl rfl rfl ?_
        refine TrL.fin ?_
        refine End.nxt ?_
        refine Tr.seq ?_
        refine Tr.rg ?_
        refine TrL.op (ok_move rfl (fun _ => rfl)) rfl rfl ?_
        refine TrL.op (ok_eqlNilN rfl (fun _ => rfl)) rfl rfl ?_
        refine TrL.op (ok_move rfl (fun _ => rfl)) rfl rfl ?_
        refine TrL.gd rfl rfl rfl (ok_ldBS rfl (fun _ => rfl)) rfl rfl ?_
        refine TrL.gd rfl rfl rfl (ok_ldBS rfl (fun _ => rfl)) rfl rfl ?_
        refine TrL.gd rfl rfl rfl (ok_call (fun hp => ct_ocmp _ _) (.s rfl id rfl <| .s rfl id rfl <| .nil)) rfl rfl ?_
        refine TrL.gd rfl rfl rfl (ok_lss rfl id rfl (fun _ => rfl)) rfl rfl ?_
        refine TrL.op (ok_or rfl (fun _ => rfl) rfl (fun hp h => gdF2 ((fun _ => rfl) hp) h)) rfl rfl ?_
        refine TrL.fin ?_
        refine End.nxt ?_
        refine Tr.cnd rfl ?_ ?_
        · intro h11
          rw [byL_empty hv0] at h11
          have hup := bst_next (o := o) (k := k) (by rcases Bool.or_eq_true_iff.1 h11 with h | h; exact .inl (of_decide_eq_true h); exact .inr (of_decide_eq_true h))
          refine Tr.rg ?_
          refine TrL.op (ok_ldBS rfl (fun _ => rfl)) rfl rfl ?_
          refine TrL.op (ok_move rfl (fun _ => rfl)) rfl rfl ?_
          refine TrL.stB rfl rfl rfl rfl ?_
          refine TrL.op (ok_assign rfl (fun _ => rfl)) rfl rfl ?_
          refine TrL.fin ?_
          refine End.blk ?_
          refine End.nxt ?_
          refine Tr.rg ?_
          refine TrL.op (ok_add rfl (fun _ => rfl) rfl (fun _ => rfl) (fun _ => by omega)) rfl rfl ?_
          refine TrL.op (ok_move rfl (fun _ => rfl)) rfl rfl ?_
          refine TrL.fin ?_
          exact End.lp (k + 1) (by first | rfl | omega | (simp; done) | (simp; omega) | assumption) (by omega) (Ent.mk (.conv rfl rfl (fun _ _ h => by rw [hup.2]; exact rd_rn (byL_ne hv0) h) rfl <| .i rfl (by first | rfl | omega | (simp; done) | (simp; omega) | assumption) <| .k rfl rfl <| .k rfl rfl <| .k rfl rfl <| .k rfl rfl <| .nil) (.e (by rw [hup.1]; rfl) rfl <| .k rfl <| .k rfl <| .nil) rfl)
        · intro h11
          rw [byL_empty hv0] at h11
          obtain ⟨h11a, h11b⟩ := Bool.or_eq_false_iff.1 h11
          have hup := bst_same (of_decide_eq_false h11a) (of_decide_eq_false h11b)
          refine Tr.skip ?_
          refine End.blk ?_
          refine End.nxt ?_
          refine Tr.rg ?_
          refine TrL.op (ok_add rfl (fun _ => rfl) rfl (fun _ => rfl) (fun _ => by omega)) rfl rfl ?_
          refine TrL.op (ok_move rfl (fun _ => rfl)) rfl rfl ?_
          refine TrL.fin ?_
          exact End.lp (k + 1) (by first | rfl | omega | (simp; done) | (simp; omega) | assumption) (by omega) (Ent.mk (.conv rfl rfl (fun _ _ h => by rw [hup.2]; exact h) rfl <| .i rfl (by first | rfl | omega | (simp; done) | (simp; omega) | assumption) <| .k rfl rfl <| .k rfl rfl <| .k rfl rfl <| .k rfl rfl <| .nil) (.e (by rw [hup.1]) rfl <| .k rfl <| .k rfl <| .nil) rfl)
      · intro h7
        replace h7 := Int.not_lt.1 (of_decide_eq_false h7)
        refine Tr.exit ?_
        refine Exs.thn ?_
        refine Exs.thn ?_
        refine Exs.here ?_
        exact End.cut (k) (by omega) (Ent.mk (.k rfl rfl <| .i rfl (by first | rfl | omega | (simp; done) | (simp; omega) | assumption) <| .k rfl rfl <| .k rfl rfl <| .k rfl rfl <| .k rfl rfl <| .nil) (.k rfl <| .k rfl <| .k rfl <| .nil) rfl)
    · rintro _ rfl
      refine End.norm (S' := [⟨7, true, _, _⟩, ⟨21, true, _, _⟩, ⟨1, true, _, _⟩, ⟨2, true, _, _⟩, ⟨6, true, _, _⟩, ⟨20, true, _, _⟩]) (M' := [⟨6, _, _⟩, ⟨1, _, _⟩, ⟨2, _, _⟩]) rfl rfl ?_
      refine End.rnR (s := 7) rfl (bst_end hv0).2 ?_
      refine End.nxt ?_
      refine Tr.seq ?_
      refine Tr.rg ?_
      refine TrL.op (ok_ldBS rfl (fun _ => rfl)) rfl rfl ?_
      refine TrL.op (ok_move rfl (fun _ => rfl)) rfl rfl ?_
      refine TrL.stB rfl rfl rfl rfl ?_
      refine TrL.op (ok_assign rfl (fun _ => rfl)) rfl rfl ?_
      refine TrL.op (ok_assign rfl (fun _ => rfl)) rfl rfl ?_
      refine TrL.fin ?_
      refine End.nxt ?_
      refine Tr.ret ?_
      exact Rts.resC (fn := Tryz.f13) (ts := [3, 4]) rfl rfl rfl (aggRd rfl (by rw [if_pos h2, (bst_end hv0).1])) (.r rfl (by rw [if_pos h2]) <| .i rfl h2.symm <| .nil)

end Go.Fl

/- Division, lists gone through in place, directions. Plain Lean, no program in sight. -/
namespace Go.Fl
theorem flo_c {a b : Int} : flo a b = if (decide (a.tmod b ≠ 0) && decide (decide (a < 0) ≠ decide (b < 0))) = true then a.tdiv b - 1 else a.tdiv b := by
  unfold flo
  have : (a.tmod b ≠ 0 ∧ (a < 0) ≠ (b < 0)) ↔ (decide (a.tmod b ≠ 0) && decide (decide (a < 0) ≠ decide (b < 0))) = true := by
    rw [Bool.and_eq_true, decide_eq_true_eq, decide_eq_true_eq]
    refine and_congr_right fun _ => not_congr ⟨fun h => by simp only [h], fun h => propext (decide_eq_decide.1 h)⟩
  by_cases h : a.tmod b ≠ 0 ∧ (a < 0) ≠ (b < 0)
  · rw [if_pos h, if_pos (this.1 h)]
  · rw [if_neg h, if_neg (fun k => h (this.2 k))]
def thenP (p q : List Int) (i : Nat) : List Int := tab p.length (fun j => if j < i then nth q (nth p j).toNat else nth p j)
theorem thenP_len {p q : List Int} {i : Nat} : (thenP p q i).length = p.length := tab_len
theorem thenP_zero {p q : List Int} : thenP p q 0 = p := by
  unfold thenP
  exact (tab_congr fun j _ => by rw [if_neg (by omega)]).trans (tab_nth rfl).symm
theorem thenP_at {p q : List Int} {i : Nat} (h : i < p.length) : nth (thenP p q i) i = nth p i := by
  unfold thenP; rw [nth_tab h, if_neg (by omega)]
theorem thenP_succ {p q : List Int} {i : Nat} : (thenP p q i).set i (nth q (nth p i).toNat) = thenP p q (i + 1) := by
  unfold thenP
  rw [tab_set]
  refine tab_congr fun j _ => ?_
  by_cases e : j = i
  · subst e; rw [if_pos rfl, if_pos (by omega)]
  · rw [if_neg e]
    by_cases h : j < i
    · rw [if_pos h, if_pos (by omega)]
    · rw [if_neg h, if_neg (by omega)]
theorem thenP_all {p q : List Int} {n : Nat} (h : p.length = n) : thenP p q n = thenL p q := by
  unfold thenP thenL
  exact tab_congr fun j hj => by rw [if_pos (by omega)]
def dirE (p q : Int) : Int := if p < -1000 ∨ 1000 < p ∨ q < -1000 ∨ 1000 < q ∨ Int.gcd p q ≠ 1 then 2 else 0
/-- The origamis on the way to a direction. -/
structure TwSt (o : Ori) (p q : Int) (o' : Ori) (p' q' : Int) : Prop where
  v : Valid o'
  len : o'.1.length = o.1.length
  pb : -1000 ≤ p' ∧ p' ≤ 1000
  qb : -1000 ≤ q' ∧ q' ≤ 1000
  gcd : Int.gcd p' q' = 1
  eq : tw o' p' q' = tw o p q
theorem TwSt.start {o : Ori} (v : Valid o) {p q : Int} (h : dirE p q = 0) : TwSt o p q o p q := by
  unfold dirE at h
  split at h
  · cases h
  · rename_i hh
    simp only [not_or, Classical.not_not] at hh
    exact ⟨v, rfl, by omega, by omega, hh.2.2.2.2, rfl⟩
theorem TwSt.next {o o' : Ori} {p q p' q' : Int} (h : TwSt o p q o' p' q') (hq : q' ≠ 0) : TwSt o p q (twO o' (flo p' q')) q' (flo p' q' * q' - p') := by
  obtain ⟨v, hn⟩ := twO_valid h.v (flo p' q')
  have := flo_less p' hq
  have := h.qb
  exact ⟨v, hn.trans h.len, h.qb, by omega, (gcd_next _).trans h.gcd, (tw_next hq).symm.trans h.eq⟩
theorem TwSt.fin {o o' : Ori} {p q p' : Int} (h : TwSt o p q o' p' 0) : (p' = 1 ∨ p' = -1) ∧ tw o p q = if p' < 0 then turnO o' else o' := by
  have := h.gcd
  rw [Int.gcd_zero_right] at this
  exact ⟨by omega, by rw [← h.eq, tw_end]⟩
/-- Orders, as numbers below 64. -/
def fin64 (x : Int) : Fin 64 := Fin.ofNat 64 x.toNat
theorem fin64_val {x : Int} (h : 0 ≤ x ∧ x < 64) : ((fin64 x).val : Int) = x := by
  unfold fin64
  simp only [Fin.val_ofNat]
  omega
theorem map_fin64 {L : List Int} (h : ∀ x ∈ L, 0 ≤ x ∧ x < 64) : (L.map fin64).map (fun x => (x.val : Int)) = L := by
  rw [List.map_map]
  conv => rhs; rw [← List.map_id L]
  exact List.map_congr_left fun x hx => fin64_val (h x hx)
def ordTo (L : List (List Int)) (k : Nat) : List Int := ordOf (L.take k)
theorem ordTo_succ {L : List (List Int)} {k : Nat} (h : k < L.length) : ordTo L (k + 1) = ordTo L k ++ [((nth L k).length : Int) - 1] := by
  unfold ordTo ordOf; rw [take_succ_nth h, List.map_append]; rfl
theorem ordTo_all {L : List (List Int)} : ordTo L L.length = ordOf L := by unfold ordTo; rw [List.take_length]
theorem vtx_row_len {o : Ori} (v : Valid o) {k : Nat} (hk : k < (vtx o).length) : 0 < (nth (vtx o) k).length ∧ (nth (vtx o) k).length ≤ o.1.length := cycs_len_pos v.pC (nth_mem hk)
end Go.Fl

/- max, min. No program in sight. -/
namespace Go.Fl
open Go Go.RowKit
section
variable {P : Program} {c : Ctx} {S : Slots} {M : Conts} {p : Bool} {d : Option Tmp} {ty : TypeId} {pos : String} {af : Array Edge} {gd : Option (Nat × Bool)} {x y : Operand} {b b' : Bool}
theorem ok_max {ts : Array TypeId} {m n : Int} (hx : opK S x = some (b, kI m)) (hb : p = true → b = true) (hy : opK S y = some (b', kI n)) (hb' : p = true → b' = true) : OpOk P c S M ⟨d, .call { callee := .builtin .max, args := #[x, y], argTypes := ts }, ty, pos, af, gd⟩ p (kI (if n > m then n else m)) none :=
  OpOk.pure fun hp a g w _ _ ho => by
    have h1 : a.eval x = _ := ho x (by simp [Op.operands, Call.operands]) b _ hx (hb hp)
    have h2 : a.eval y = _ := ho y (by simp [Op.operands, Call.operands]) b' _ hy (hb' hp)
    exact ⟨_, by simp [execOp, resolve, invoke, builtin, h1, h2, run_max_int2], rfl⟩
end
end Go.Fl

/- Contracts: strata, directions; the examples. -/
namespace Go.Fl
open Go Go.Proofs

instance : NB 1 2 := ⟨rfl⟩

theorem ltOf_val {a b : Fin 64} : ltOf (fun x y : Fin 64 => ((y.val : Int) - x.val)) b a = decide ((a.val : Int) < b.val) := by
  show decide ((a.val : Int) - b.val < 0) = _
  by_cases h : (a.val : Int) < b.val
  · rw [decide_eq_true h, decide_eq_true (by omega)]
  · rw [decide_eq_false h, decide_eq_false (by omega)]
theorem calls_desc (x y : Fin 64) (w : World) : Calls Tryz.prog 38 #[.int .i64 x.val, .int .i64 y.val] w fun e w' => e = .returned (.int .i64 ((y.val : Int) - x.val)) ∧ ∃ q os', w' = Sort.grow (w.drewN q) os' := by
  have hx := x.isLt; have hy := y.isLt
  have hw : IntKind.i64.wrap ((y.val : Int) - x.val) = (y.val : Int) - x.val := W_in (by omega) (by omega)
  generalize hX : (x.val : Int) = X at *
  generalize hY : (y.val : Int) = Y at *
  go_enter Tryz.func38, Tryz.ntmps38
  go_wp2
  go_ret
  exact ⟨rfl, 0, #[], by simp [Sort.grow, World.drewN]⟩
theorem ctb_dn {z : Bool} {ty : TypeId} {L : List Int} {n len : Nat} (h : ∀ x ∈ L, 0 ≤ x ∧ x ≤ n) (hn : n ≤ 60) (hl : L.length = len) (h0 : 0 < len) (hm : len ≤ 1000000) :
    CtB Tryz.prog 37 (kOsl 0 len) [kDet (.func (.func 38) #[] #[])] (cArr z ty eI L len) (cArr z ty eI (dnL L n) len) (kDet (.tuple #[])) := by
  have h64 : ∀ x ∈ L, 0 ≤ x ∧ x < 64 := fun x hx => by have := h x hx; omega
  have hO : Sort.SWO (ltOf (fun x y : Fin 64 => ((y.val : Int) - x.val))) := ⟨fun x => by rw [ltOf_val]; simp, fun x y z h1 h2 => by rw [ltOf_val] at *; simp at *; omega, fun x y z h1 h2 => by rw [ltOf_val] at *; simp at *; omega⟩
  have := ctb_sortF (P := Tryz.prog) Tryz.sortF (fun x : Fin 64 => (x.val : Int)) (fun x y : Fin 64 => ((y.val : Int) - x.val)) hO 38 (enters_of Tryz.func38 (by kernel_rfl) rfl) calls_desc (z := z) (ty := ty) (L.map fin64) (ys := dnL L n) (len := len) h0 hm (by rw [List.length_map]; exact hl) (fun d' hp hd => dnL_uniq h ((hp.map _).trans (List.Perm.of_eq (map_fin64 h64))) ?_)
  · rw [map_fin64 h64] at this; exact this
  · rw [List.pairwise_map]
    exact hd.imp fun h => by rw [ltOf_val] at h; simpa using h


theorem ct_cycV (o : Ori) (v : Valid o) : Ct Tryz.prog 35 [kRd (eL eI) (comm o)] (kRd (eL (eL eI)) (vtx o)) := by
  have hl := comm_len o
  have := v.le
  have h := ct_cycles (comm o) (by omega) (by rw [hl]; exact comm_rng v)
  rw [hl] at h; exact h

theorem gcd_sw (x y : Nat) : Nat.gcd y (x % y) = Nat.gcd x y := by rw [Nat.gcd_comm x y, Nat.gcd_rec y x, Nat.gcd_comm]
set_option maxRecDepth 100000 in
theorem ct_oStratum (o : Ori) : Ct Tryz.prog 15 [kRd eO o] (kTup [kRd (eL eI) (if chk1 o = 0 then stratL o else []), kI (chk1 o)]) := by
  refine Ct.mk Tryz.func15 rfl Tryz.ntmps15 rfl (fun w J => ?_)
  refine Tr.seq ?_
  refine Tr.rg ?_
  refine TrL.new (ok_box 1 rfl (fun _ => rfl) rfl) rfl rfl rfl rfl ?_
  refine TrL.op (ok_assign rfl (fun _ => rfl)) rfl rfl ?_
  refine TrL.op (ok_assign rfl (fun _ => rfl)) rfl rfl ?_
  refine TrL.fin ?_
  refine End.nxt ?_
  refine Tr.seq ?_
  refine Tr.seq ?_
  refine Tr.rg ?_
  refine TrL.op (ok_ldBS rfl (fun _ => rfl)) rfl rfl ?_
  refine TrL.op (ok_bslJ eO (fun hp => .cons rfl <| .nil) rfl rfl rfl rfl) rfl rfl ?_
  refine TrL.op (ok_call (fun hp => ct_connected [o]) (.a rfl (fun _ => rfl) <| .nil)) rfl rfl ?_
  refine TrL.op (ok_assign rfl (fun _ => rfl)) rfl rfl ?_
  refine TrL.fin ?_
  refine End.nxt ?_
  refine Tr.seq ?_
  refine Tr.rg ?_
  refine TrL.op (ok_move rfl (fun _ => rfl)) rfl rfl ?_
  refine TrL.op (ok_neq rfl (fun _ => rfl) rfl (fun _ => rfl)) rfl rfl ?_
  refine TrL.fin ?_
  refine End.nxt ?_
  refine Tr.cnd rfl ?_ ?_
  · intro h2
    replace h2 := of_decide_eq_true h2
    rw [connE_one] at h2
    refine Tr.seq ?_
    refine Tr.rg ?_
    refine TrL.op (ok_move rfl (fun _ => rfl)) rfl rfl ?_
    refine TrL.op (ok_assign rfl (fun _ => rfl)) rfl rfl ?_
    refine TrL.op (ok_assign rfl (fun _ => rfl)) rfl rfl ?_
    refine TrL.fin ?_
    refine End.nxt ?_
    refine Tr.ret ?_
    refine Rts.thn ?_
    exact Rts.res (fn := Tryz.f15) (ts := [2, 3]) rfl rfl (.n rfl (by rw [if_neg h2]) <| .i rfl (by rw [connE_one]) <| .nil)
  · intro h2
    replace h2 := Classical.not_not.1 (of_decide_eq_false h2)
    rw [connE_one] at h2
    obtain ⟨v, cn⟩ := chk1_zero h2
    have hl := comm_len o
    have hvl := vtx_le (o := o)
    have hvp := vtx_pos v
    have hv0 := v.pos
    have hv1 := v.len
    have hv2 := v.le
    refine Tr.skip ?_
    refine End.nxt ?_
    refine Tr.seq ?_
    refine Tr.rg ?_
    refine TrL.op (ok_assign rfl (fun _ => rfl)) rfl rfl ?_
    refine TrL.fin ?_
    refine End.nxt ?_
    refine Tr.seq ?_
    refine Tr.seq ?_
    refine Tr.rg ?_
    refine TrL.op (ok_ldBS rfl (fun _ => rfl)) rfl rfl ?_
    refine TrL.op (ok_call (fun hp => ct_comm _ v) (.s rfl (fun _ => rfl) rfl <| .nil)) rfl rfl ?_
    refine TrL.op (ok_call (fun hp => ct_cycV o v) (.a rfl (fun _ => rfl) <| .nil)) rfl rfl ?_
    refine TrL.op (ok_lenJ rfl (fun _ => rfl)) rfl rfl ?_
    refine TrL.op (ok_move rfl (fun _ => rfl)) rfl rfl ?_
    refine TrL.fin ?_
    refine End.nxt ?_
    refine Tr.grow (s := 5) rfl rfl 5 rfl 3 eI rfl ?_
    refine Tr.for1 (σ := Nat) [⟨16, true, _, _⟩, ⟨17, true, _, _⟩] [] (fun k => [⟨18, true, [], kI (k : Int)⟩, ⟨5, true, [5], kOsl 5 k⟩]) (fun k => [⟨5, [], cArr true 3 eI (ordTo (vtx o) k) k⟩]) (fun k => k ≤ (vtx o).length) (fun k => k = (vtx o).length) (fun k => (vtx o).length - k) (0) (Nat.zero_le _) (Ent.mk (.i rfl (by first | rfl | omega | (simp; done) | (simp; omega) | assumption) <| .o rfl (by first | rfl | omega | (simp; done) | (simp; omega) | assumption) rfl <| .k rfl rfl <| .k rfl rfl <| .nil) (.a (by rfl) (by first | rfl | omega | (simp; done) | (simp; omega) | assumption) <| .nil) rfl) ?_ ?_
    · intro k hR0
      refine Tr.norm (S' := [⟨18, true, _, _⟩, ⟨5, true, _, _⟩, ⟨16, true, _, _⟩, ⟨17, true, _, _⟩]) (M' := [⟨5, _, _⟩]) rfl rfl ?_
      have hrl := fun h => vtx_row_len v (k := k) h
      refine Tr.seq ?_
      refine Tr.rg ?_
      refine TrL.op (ok_lss rfl (fun _ => rfl) rfl (fun _ => rfl)) rfl rfl ?_
      refine TrL.fin ?_
      refine End.nxt ?_
      refine Tr.seq ?_
      refine Tr.cnd rfl ?_ ?_
      · intro h6
        replace h6 := of_decide_eq_true h6
        refine Tr.skip ?_
        refine End.nxt ?_
        refine Tr.seq ?_
        refine Tr.blk ?_
        refine Tr.seq ?_
        refine Tr.rg ?_
        have hrl2 := hrl (by omega)
        first | refine TrL.op (ok_idxN rfl (fun _ => rfl) rfl (fun _ => rfl) rfl (fun _ => by omega)) rfl rfl ?_ | refine TrL.op (ok_idxP rfl (fun _ => rfl) rfl (fun _ => rfl) rfl (fun _ => by omega)) rfl rfl ?_
        refine TrL.op (ok_ldP rfl (fun _ => rfl) rfl) rfl rfl ?_
        refine TrL.op (ok_assign rfl (fun _ => rfl)) rfl rfl ?_
        refine TrL.fin ?_
        refine End.nxt ?_
        refine Tr.rg ?_
        refine TrL.op (ok_move rfl (fun _ => rfl)) rfl rfl ?_
        refine TrL.op (ok_move rfl (fun _ => rfl)) rfl rfl ?_
        refine TrL.op (ok_lenJ rfl (fun _ => rfl)) rfl rfl ?_
        refine TrL.op (ok_sub rfl (fun _ => rfl) rfl (fun _ => rfl) (fun _ => by omega)) rfl rfl ?_
        refine TrL.new (ok_bsl eI 26 (fun hp => .cons rfl <| .nil) rfl rfl rfl rfl) rfl rfl rfl rfl ?_
        refine TrL.app rfl rfl rfl rfl rfl rfl rfl rfl (by first | omega | (simp only [List.length_cons, List.length_nil]; omega)) (by first | omega | (simp only [List.length_cons, List.length_nil]; omega)) ?_
        refine TrL.norm (S' := [⟨_, _, _, _⟩, ⟨_, _, _, _⟩, ⟨_, _, _, _⟩, ⟨_, _, _, _⟩, ⟨_, _, _, _⟩, ⟨_, _, _, _⟩, ⟨_, _, _, _⟩, ⟨_, _, _, _⟩, ⟨_, _, _, _⟩, ⟨_, _, _, _⟩, ⟨_, _, _, _⟩, ⟨_, _, _, _⟩, ⟨_, _, _, _⟩, ⟨_, _, _, _⟩]) rfl rfl ?_
        refine TrL.op (ok_assign rfl (fun _ => rfl)) rfl rfl ?_
        refine TrL.fin ?_
        refine End.blk ?_
        refine End.nxt ?_
        refine Tr.rg ?_
        refine TrL.op (ok_add rfl (fun _ => rfl) rfl (fun _ => rfl) (fun _ => by omega)) rfl rfl ?_
        refine TrL.op (ok_move rfl (fun _ => rfl)) rfl rfl ?_
        refine TrL.fin ?_
        exact End.lp (k + 1) (by first | rfl | omega | (simp; done) | (simp; omega) | assumption) (by omega) (Ent.mk (.i rfl (by first | rfl | omega | (simp; done) | (simp; omega) | assumption) <| .o rfl (by first | rfl | omega | (simp; done) | (simp; omega) | assumption) rfl <| .k rfl rfl <| .k rfl rfl <| .nil) (.a (ordTo_succ (by omega)).symm (by first | rfl | omega | (simp; done) | (simp; omega) | assumption) <| .nil) rfl)
      · intro h6
        replace h6 := Int.not_lt.1 (of_decide_eq_false h6)
        refine Tr.exit ?_
        refine Exs.thn ?_
        refine Exs.thn ?_
        refine Exs.here ?_
        exact End.cut (k) (by omega) (Ent.mk (.i rfl (by first | rfl | omega | (simp; done) | (simp; omega) | assumption) <| .o rfl (by first | rfl | omega | (simp; done) | (simp; omega) | assumption) rfl <| .k rfl rfl <| .k rfl rfl <| .nil) (.a (by first | rfl | omega | (simp; done) | (simp; omega) | assumption) (by first | rfl | omega | (simp; done) | (simp; omega) | assumption) <| .nil) rfl)
    · rintro _ rfl
      refine End.norm (S' := [⟨18, true, _, _⟩, ⟨5, true, _, _⟩, ⟨16, true, _, _⟩, ⟨17, true, _, _⟩]) (M' := [⟨5, _, _⟩]) rfl rfl ?_
      refine End.nxt ?_
      refine Tr.seq ?_
      refine Tr.rg ?_
      have hor := ordOf_rng v.pC
      have hol : (ordOf (vtx o)).length = (vtx o).length := (by unfold ordOf; simp)
      rw [← show vtx o = cycs (comm o) o.1.length from rfl] at hor
      rw [← ordTo_all (L := vtx o)] at hor hol
      refine TrL.op (ok_move rfl (fun _ => rfl)) rfl rfl ?_
      refine TrL.mut (ctb_dn hor (by omega) hol (by omega) (by omega)) rfl (.a rfl (fun _ => rfl) <| .nil) (fun _ _ _ _ h => h) (fun _ _ h => by have h2 : _ = 0 := h.2; omega) (fun h => h) rfl ?_
      refine TrL.fin ?_
      refine End.nxt ?_
      refine Tr.seq ?_
      refine Tr.rg ?_
      refine TrL.op (ok_move rfl (fun _ => rfl)) rfl rfl ?_
      refine TrL.op (ok_assign rfl (fun _ => rfl)) rfl rfl ?_
      refine TrL.op (ok_assign rfl (fun _ => rfl)) rfl rfl ?_
      refine TrL.fin ?_
      refine End.nxt ?_
      refine Tr.frz 5 [2] ⟨rfl, trivial⟩ (by simp only [lenMax]; omega) rfl ?_
      refine Tr.ret ?_
      exact Rts.res (fn := Tryz.f15) (ts := [2, 3]) rfl rfl (.r rfl (by rw [if_pos h2]; unfold stratL ordsL; rw [← ordTo_all]) <| .i rfl h2.symm <| .nil)

set_option maxRecDepth 100000 in
theorem ct_osize (n : Int) (h : -9223372036854775807 ≤ n ∧ n ≤ 9223372036854775807) : Ct Tryz.prog 59 [kI n] (kI (n.natAbs : Int)) := by
  refine Ct.mk Tryz.func59 rfl Tryz.ntmps59 rfl (fun w J => ?_)
  refine Tr.seq ?_
  refine Tr.rg ?_
  refine TrL.op (ok_assign rfl (fun _ => rfl)) rfl rfl ?_
  refine TrL.fin ?_
  refine End.nxt ?_
  refine Tr.seq ?_
  refine Tr.rg ?_
  refine TrL.op (ok_move rfl (fun _ => rfl)) rfl rfl ?_
  refine TrL.op (ok_move rfl (fun _ => rfl)) rfl rfl ?_
  refine TrL.op (ok_neg rfl (fun _ => rfl) (fun _ => by omega)) rfl rfl ?_
  refine TrL.op (ok_max rfl (fun _ => rfl) rfl (fun _ => rfl)) rfl rfl ?_
  refine TrL.op (ok_assign rfl (fun _ => rfl)) rfl rfl ?_
  refine TrL.fin ?_
  refine End.nxt ?_
  refine Tr.ret ?_
  exact Rts.res1 (fn := Tryz.f59) rfl (.i rfl (by split <;> omega) <| .nil)

set_option maxRecDepth 100000 in
theorem ct_ogcd (a b : Int) (ha : -9223372036854775807 ≤ a ∧ a ≤ 9223372036854775807) (hb : -9223372036854775807 ≤ b ∧ b ≤ 9223372036854775807) : Ct Tryz.prog 39 [kI a, kI b] (kI (Int.gcd a b : Int)) := by
  refine Ct.mk Tryz.func39 rfl Tryz.ntmps39 rfl (fun w J => ?_)
  refine Tr.seq ?_
  refine Tr.rg ?_
  refine TrL.op (ok_assign rfl (fun _ => rfl)) rfl rfl ?_
  refine TrL.fin ?_
  refine End.nxt ?_
  refine Tr.seq ?_
  refine Tr.rg ?_
  refine TrL.op (ok_move rfl (fun _ => rfl)) rfl rfl ?_
  refine TrL.op (ok_call (fun hp => ct_osize _ (by omega)) (.a rfl (fun _ => rfl) <| .nil)) rfl rfl ?_
  refine TrL.op (ok_move rfl (fun _ => rfl)) rfl rfl ?_
  refine TrL.op (ok_call (fun hp => ct_osize _ (by omega)) (.a rfl (fun _ => rfl) <| .nil)) rfl rfl ?_
  refine TrL.op (ok_assign rfl (fun _ => rfl)) rfl rfl ?_
  refine TrL.op (ok_assign rfl (fun _ => rfl)) rfl rfl ?_
  refine TrL.fin ?_
  refine End.nxt ?_
  refine Tr.for (σ := Nat × Nat) [] [] (fun (x, y) => [⟨0, true, [], kI (x : Int)⟩, ⟨1, true, [], kI (y : Int)⟩]) (fun (x, y) => []) (fun (x, y) => Nat.gcd x y = Int.gcd a b) (fun (x, y) => x = Int.gcd a b) (fun (x, y) => y) ((a.natAbs, b.natAbs)) rfl (Ent.mk (.i rfl (by first | rfl | omega | (simp; done) | (simp; omega) | assumption) <| .i rfl (by first | rfl | omega | (simp; done) | (simp; omega) | assumption) <| .nil) (.nil) rfl) ?_ ?_
  · rintro ⟨x, y⟩ hR0
    refine Tr.norm (S' := [⟨0, true, _, _⟩, ⟨1, true, _, _⟩]) (M' := []) rfl rfl ?_
    refine Tr.seq ?_
    refine Tr.seq ?_
    refine Tr.rg ?_
    refine TrL.op (ok_move rfl (fun _ => rfl)) rfl rfl ?_
    refine TrL.op (ok_gtr rfl (fun _ => rfl) rfl (fun _ => rfl)) rfl rfl ?_
    refine TrL.fin ?_
    refine End.nxt ?_
    refine Tr.cnd rfl ?_ ?_
    · intro h2
      replace h2 := of_decide_eq_true h2
      refine Tr.skip ?_
      refine End.nxt ?_
      refine Tr.blk ?_
      refine Tr.draw 5 mixed (by kernel_rfl) ?_
      refine RunD.op (ok_move rfl (fun _ => rfl)) rfl rfl ?_
      refine RunD.op (ok_move rfl (fun _ => rfl)) rfl rfl ?_
      refine RunD.op (ok_move rfl (fun _ => rfl)) rfl rfl ?_
      refine RunD.op (ok_remN x y rfl (fun _ => rfl) rfl (fun _ => rfl) (fun _ => by omega)) rfl rfl ?_
      refine RunD.op (ok_assign rfl (fun _ => rfl)) rfl rfl ?_
      refine RunD.z ?_
      refine TrL.op (ok_assign rfl (fun _ => rfl)) rfl rfl ?_
      refine TrL.fin ?_
      refine End.blk ?_
      exact End.lp ((y, x % y)) ((gcd_sw x y).trans hR0) (Nat.mod_lt _ (by omega)) (Ent.mk (.i rfl (by first | rfl | omega | (simp; done) | (simp; omega) | assumption) <| .i rfl (by first | rfl | omega | (simp; done) | (simp; omega) | assumption) <| .nil) (.nil) rfl)
    · intro h2
      replace h2 := Int.not_lt.1 (of_decide_eq_false h2)
      refine Tr.exit ?_
      refine Exs.thn ?_
      refine Exs.thn ?_
      refine Exs.here ?_
      exact End.cut ((x, y)) (by (obtain rfl : y = 0 := by omega); exact (Nat.gcd_zero_right x).symm.trans hR0) (Ent.mk (.i rfl (by first | rfl | omega | (simp; done) | (simp; omega) | assumption) <| .i rfl (by first | rfl | omega | (simp; done) | (simp; omega) | assumption) <| .nil) (.nil) rfl)
  · rintro ⟨x, y⟩ hE0
    refine Tr.norm (S' := [⟨0, true, _, _⟩, ⟨1, true, _, _⟩]) (M' := []) rfl rfl ?_
    refine Tr.seq ?_
    refine Tr.rg ?_
    refine TrL.op (ok_move rfl (fun _ => rfl)) rfl rfl ?_
    refine TrL.op (ok_assign rfl (fun _ => rfl)) rfl rfl ?_
    refine TrL.fin ?_
    refine End.nxt ?_
    refine Tr.ret ?_
    exact Rts.res1 (fn := Tryz.f39) rfl (.i rfl (by rw [hE0]) <| .nil)

set_option maxRecDepth 100000 in
theorem ct_ofloor (a b : Int) (hb : b ≠ 0) (ha : -1000000 ≤ a ∧ a ≤ 1000000) : Ct Tryz.prog 41 [kI a, kI b] (kI (flo a b)) := by
  have hq : (a.tdiv b).natAbs ≤ a.natAbs := (by rw [Int.natAbs_tdiv]; exact Nat.div_le_self _ _)
  refine Ct.mk Tryz.func41 rfl Tryz.ntmps41 rfl (fun w J => ?_)
  refine Tr.seq ?_
  refine Tr.rg ?_
  refine TrL.op (ok_assign rfl (fun _ => rfl)) rfl rfl ?_
  refine TrL.fin ?_
  refine End.nxt ?_
  refine Tr.seq ?_
  refine Tr.rg ?_
  refine TrL.op (ok_move rfl (fun _ => rfl)) rfl rfl ?_
  refine TrL.op (ok_move rfl (fun _ => rfl)) rfl rfl ?_
  refine TrL.op (ok_quo rfl (fun _ => rfl) rfl (fun _ => rfl) (fun _ => by omega)) rfl rfl ?_
  refine TrL.op (ok_assign rfl (fun _ => rfl)) rfl rfl ?_
  refine TrL.fin ?_
  refine End.nxt ?_
  refine Tr.seq ?_
  refine Tr.seq ?_
  refine Tr.rg ?_
  refine TrL.op (ok_move rfl (fun _ => rfl)) rfl rfl ?_
  refine TrL.op (ok_move rfl (fun _ => rfl)) rfl rfl ?_
  refine TrL.op (ok_rem rfl (fun _ => rfl) rfl (fun _ => rfl) (fun _ => by omega)) rfl rfl ?_
  refine TrL.op (ok_neq rfl (fun _ => rfl) rfl (fun _ => rfl)) rfl rfl ?_
  refine TrL.op (ok_move rfl (fun _ => rfl)) rfl rfl ?_
  refine TrL.gd rfl rfl rfl (ok_move rfl (fun _ => rfl)) rfl rfl ?_
  refine TrL.gd rfl rfl rfl (ok_lss rfl id rfl (fun _ => rfl)) rfl rfl ?_
  refine TrL.gd rfl rfl rfl (ok_move rfl (fun _ => rfl)) rfl rfl ?_
  refine TrL.gd rfl rfl rfl (ok_lss rfl id rfl (fun _ => rfl)) rfl rfl ?_
  refine TrL.gd rfl rfl rfl (ok_neqB rfl id rfl id) rfl rfl ?_
  refine TrL.op (ok_and rfl (fun _ => rfl) rfl (fun hp h => gdT2 ((fun _ => rfl) hp) h)) rfl rfl ?_
  refine TrL.fin ?_
  refine End.nxt ?_
  refine Tr.cnd rfl ?_ ?_
  · intro h2
    refine Tr.rg ?_
    refine TrL.op (ok_move rfl (fun _ => rfl)) rfl rfl ?_
    refine TrL.op (ok_sub rfl (fun _ => rfl) rfl (fun _ => rfl) (fun _ => by omega)) rfl rfl ?_
    refine TrL.op (ok_assign rfl (fun _ => rfl)) rfl rfl ?_
    refine TrL.fin ?_
    refine End.nxt ?_
    refine Tr.seq ?_
    refine Tr.rg ?_
    refine TrL.op (ok_move rfl (fun _ => rfl)) rfl rfl ?_
    refine TrL.op (ok_assign rfl (fun _ => rfl)) rfl rfl ?_
    refine TrL.fin ?_
    refine End.nxt ?_
    refine Tr.ret ?_
    exact Rts.res1 (fn := Tryz.f41) rfl (.i rfl (by rw [flo_c, if_pos h2]) <| .nil)
  · intro h2
    refine Tr.skip ?_
    refine End.nxt ?_
    refine Tr.seq ?_
    refine Tr.rg ?_
    refine TrL.op (ok_move rfl (fun _ => rfl)) rfl rfl ?_
    refine TrL.op (ok_assign rfl (fun _ => rfl)) rfl rfl ?_
    refine TrL.fin ?_
    refine End.nxt ?_
    refine Tr.ret ?_
    exact Rts.res1 (fn := Tryz.f41) rfl (.i rfl (by rw [flo_c, if_neg (by rw [h2]; simp)]) <| .nil)

set_option maxRecDepth 100000 in
theorem ct_othen (n : Nat) (p q : List Int) (k : Int) (P : Perm p n) (Q : Perm q n) (h0 : 0 < n) (hn : n ≤ 60) (hk : -1000000 ≤ k ∧ k ≤ 1000000) : Ct Tryz.prog 42 [kRd (eL eI) p, kRd (eL eI) q, kI k] (kRd (eL eI) (thenK p q k)) := by
  have hpl := P.ln
  have hql := Q.ln
  have D := dirL_perm Q k
  refine Ct.mk Tryz.func42 rfl Tryz.ntmps42 rfl (fun w J => ?_)
  refine Tr.seq ?_
  refine Tr.rg ?_
  refine TrL.op (ok_assign rfl (fun _ => rfl)) rfl rfl ?_
  refine TrL.fin ?_
  refine End.nxt ?_
  refine Tr.meet2 (σ := Unit) [⟨0, true, _, _⟩] [] (.k rfl rfl <| .nil) (.nil) (fun _ => [⟨1, true, [], kRd (eL eI) (dirL q k)⟩, ⟨2, true, [], kI (k.natAbs : Int)⟩]) (fun _ => []) (fun _ => True) ?_ ?_
  · skip
    refine Tr.seq ?_
    refine Tr.rg ?_
    refine TrL.op (ok_move rfl (fun _ => rfl)) rfl rfl ?_
    refine TrL.op (ok_lss rfl (fun _ => rfl) rfl (fun _ => rfl)) rfl rfl ?_
    refine TrL.fin ?_
    refine End.nxt ?_
    refine Tr.cnd rfl ?_ ?_
    · intro h1
      replace h1 := of_decide_eq_true h1
      refine Tr.rg ?_
      refine TrL.op (ok_move rfl (fun _ => rfl)) rfl rfl ?_
      refine TrL.op (ok_call (fun hp => ct_oinv _ (by omega) (by rw [hql]; exact Q.rg)) (.a rfl (fun _ => rfl) <| .nil)) rfl rfl ?_
      refine TrL.op (ok_move rfl (fun _ => rfl)) rfl rfl ?_
      refine TrL.op (ok_neg rfl (fun _ => rfl) (fun _ => by omega)) rfl rfl ?_
      refine TrL.op (ok_assign rfl (fun _ => rfl)) rfl rfl ?_
      refine TrL.op (ok_assign rfl (fun _ => rfl)) rfl rfl ?_
      refine TrL.fin ?_
      exact End.cut (()) (by first | rfl | omega | (simp; done) | (simp; omega) | assumption) (Ent.mk (.r rfl (by unfold dirL; rw [if_pos h1]) <| .i rfl (by first | rfl | omega | (simp; done) | (simp; omega) | assumption) <| .k rfl rfl <| .nil) (.nil) rfl)
    · intro h1
      replace h1 := Int.not_lt.1 (of_decide_eq_false h1)
      refine Tr.skip ?_
      exact End.cut (()) (by first | rfl | omega | (simp; done) | (simp; omega) | assumption) (Ent.mk (.r rfl (by unfold dirL; rw [if_neg (by omega)]) <| .i rfl (by first | rfl | omega | (simp; done) | (simp; omega) | assumption) <| .k rfl rfl <| .nil) (.nil) rfl)
  · intro _ hM
    refine Tr.norm (S' := [⟨1, true, _, _⟩, ⟨2, true, _, _⟩, ⟨0, true, _, _⟩]) (M' := []) rfl rfl ?_
    refine Tr.seq ?_
    refine Tr.rg ?_
    refine TrL.op (ok_move rfl (fun _ => rfl)) rfl rfl ?_
    refine TrL.new (ok_callN 17 (fun hp => ct_cloneN _ (by omega) (by omega)) (.a rfl (fun _ => rfl) <| .nil)) rfl rfl rfl rfl ?_
    refine TrL.op (ok_assign rfl (fun _ => rfl)) rfl rfl ?_
    refine TrL.fin ?_
    refine End.nxt ?_
    refine Tr.seq ?_
    refine Tr.seq ?_
    refine Tr.rg ?_
    refine TrL.op (ok_move rfl (fun _ => rfl)) rfl rfl ?_
    refine TrL.op (ok_move rfl (fun _ => rfl)) rfl rfl ?_
    refine TrL.fin ?_
    refine End.nxt ?_
    refine Tr.for1 (σ := Nat) [⟨1, true, _, _⟩, ⟨7, true, _, _⟩, ⟨18, true, _, _⟩] [] (fun m => [⟨19, true, [], kI (m : Int)⟩]) (fun m => [⟨17, [], cArr false 3 eI (thenN p (dirL q k) m) p.length⟩]) (fun m => m ≤ k.natAbs) (fun m => m = k.natAbs) (fun m => k.natAbs - m) (0) (Nat.zero_le _) (Ent.mk (.i rfl (by first | rfl | omega | (simp; done) | (simp; omega) | assumption) <| .k rfl rfl <| .k rfl rfl <| .k rfl rfl <| .nil) (.a (by rfl) (by first | rfl | omega | (simp; done) | (simp; omega) | assumption) <| .nil) rfl) ?_ ?_
    · intro m hR0
      refine Tr.norm (S' := [⟨19, true, _, _⟩, ⟨1, true, _, _⟩, ⟨7, true, _, _⟩, ⟨18, true, _, _⟩]) (M' := [⟨17, _, _⟩]) rfl rfl ?_
      have PT := thenN_perm P D m
      have hTl := PT.ln
      refine Tr.seq ?_
      refine Tr.rg ?_
      refine TrL.op (ok_lss rfl (fun _ => rfl) rfl (fun _ => rfl)) rfl rfl ?_
      refine TrL.fin ?_
      refine End.nxt ?_
      refine Tr.seq ?_
      refine Tr.cnd rfl ?_ ?_
      · intro h5
        replace h5 := of_decide_eq_true h5
        refine Tr.skip ?_
        refine End.nxt ?_
        refine Tr.seq ?_
        refine Tr.blk ?_
        refine Tr.seq ?_
        refine Tr.rg ?_
        refine TrL.op (ok_move rfl (fun _ => rfl)) rfl rfl ?_
        refine TrL.op (ok_lenO rfl (fun _ => rfl)) rfl rfl ?_
        refine TrL.op (ok_move rfl (fun _ => rfl)) rfl rfl ?_
        refine TrL.fin ?_
        refine End.nxt ?_
        refine Tr.for1 (σ := Nat) [⟨1, true, _, _⟩, ⟨7, true, _, _⟩, ⟨18, true, _, _⟩, ⟨19, true, _, _⟩, ⟨21, true, _, _⟩, ⟨22, true, _, _⟩] [] (fun i => [⟨23, true, [], kI (i : Int)⟩]) (fun i => [⟨17, [], cArr false 3 eI (thenP (thenN p (dirL q k) m) (dirL q k) i) p.length⟩]) (fun i => i ≤ p.length) (fun i => i = p.length) (fun i => p.length - i) (0) (Nat.zero_le _) (Ent.mk (.i rfl (by first | rfl | omega | (simp; done) | (simp; omega) | assumption) <| .k rfl rfl <| .k rfl rfl <| .k rfl rfl <| .k rfl rfl <| .k rfl rfl <| .k rfl rfl <| .nil) (.a thenP_zero.symm (by first | rfl | omega | (simp; done) | (simp; omega) | assumption) <| .nil) rfl) ?_ ?_
        · intro i hR1
          refine Tr.norm (S' := [⟨23, true, _, _⟩, ⟨1, true, _, _⟩, ⟨7, true, _, _⟩, ⟨18, true, _, _⟩, ⟨19, true, _, _⟩, ⟨21, true, _, _⟩, ⟨22, true, _, _⟩]) (M' := [⟨17, _, _⟩]) rfl rfl ?_
          have hPl := thenP_len (p := (thenN p (dirL q k) m)) (q := dirL q k) (i := i)
          have hat := fun h => thenP_at (p := (thenN p (dirL q k) m)) (q := dirL q k) (i := i) h
          have hrg := fun h => PT.rg i h
          have hDl := D.ln
          refine Tr.seq ?_
          refine Tr.rg ?_
          refine TrL.op (ok_lss rfl (fun _ => rfl) rfl (fun _ => rfl)) rfl rfl ?_
          refine TrL.fin ?_
          refine End.nxt ?_
          refine Tr.seq ?_
          refine Tr.cnd rfl ?_ ?_
          · intro h7
            replace h7 := of_decide_eq_true h7
            refine Tr.skip ?_
            refine End.nxt ?_
            refine Tr.seq ?_
            refine Tr.blk ?_
            refine Tr.seq ?_
            refine Tr.rg ?_
            have hat1 := hat (by omega)
            have hrg1 := hrg (by omega)
            refine TrL.op (ok_move rfl (fun _ => rfl)) rfl rfl ?_
            first | refine TrL.op (ok_idxEN rfl (fun _ => rfl) rfl (fun _ => rfl) (fun _ => by omega)) rfl rfl ?_ | refine TrL.op (ok_idxE rfl (fun _ => rfl) rfl (fun _ => rfl) (fun _ => by omega)) rfl rfl ?_
            refine TrL.op (ok_ldE rfl (fun _ => rfl) rfl rfl rfl) rfl rfl ?_
            refine TrL.op (ok_assign rfl (fun _ => rfl)) rfl rfl ?_
            refine TrL.op (ok_assign rfl (fun _ => rfl)) rfl rfl ?_
            refine TrL.fin ?_
            refine End.nxt ?_
            refine Tr.rg ?_
            refine TrL.op (ok_move rfl (fun _ => rfl)) rfl rfl ?_
            refine TrL.op (ok_move rfl (fun _ => rfl)) rfl rfl ?_
            refine TrL.op (ok_move rfl (fun _ => rfl)) rfl rfl ?_
            refine TrL.op (ok_move rfl (fun _ => rfl)) rfl rfl ?_
            first | refine TrL.op (ok_idxN rfl (fun _ => rfl) rfl (fun _ => rfl) rfl (fun _ => by omega)) rfl rfl ?_ | refine TrL.op (ok_idxP rfl (fun _ => rfl) rfl (fun _ => rfl) rfl (fun _ => by omega)) rfl rfl ?_
            refine TrL.op (ok_ldP rfl (fun _ => rfl) rfl) rfl rfl ?_
            first | refine TrL.op (ok_idxEN rfl (fun _ => rfl) rfl (fun _ => rfl) (fun _ => by omega)) rfl rfl ?_ | refine TrL.op (ok_idxE rfl (fun _ => rfl) rfl (fun _ => rfl) (fun _ => by omega)) rfl rfl ?_
            refine TrL.stE rfl rfl rfl rfl rfl ?_
            refine TrL.fin ?_
            refine End.blk ?_
            refine End.nxt ?_
            refine Tr.rg ?_
            refine TrL.op (ok_add rfl (fun _ => rfl) rfl (fun _ => rfl) (fun _ => by omega)) rfl rfl ?_
            refine TrL.op (ok_move rfl (fun _ => rfl)) rfl rfl ?_
            refine TrL.fin ?_
            exact End.lp (i + 1) (by first | rfl | omega | (simp; done) | (simp; omega) | assumption) (by omega) (Ent.mk (.i rfl (by first | rfl | omega | (simp; done) | (simp; omega) | assumption) <| .k rfl rfl <| .k rfl rfl <| .k rfl rfl <| .k rfl rfl <| .k rfl rfl <| .k rfl rfl <| .nil) (.a (by rw [hat1]; exact thenP_succ) (by first | rfl | omega | (simp; done) | (simp; omega) | assumption) <| .nil) rfl)
          · intro h7
            replace h7 := Int.not_lt.1 (of_decide_eq_false h7)
            refine Tr.exit ?_
            refine Exs.thn ?_
            refine Exs.thn ?_
            refine Exs.here ?_
            exact End.cut (i) (by omega) (Ent.mk (.i rfl (by first | rfl | omega | (simp; done) | (simp; omega) | assumption) <| .k rfl rfl <| .k rfl rfl <| .k rfl rfl <| .k rfl rfl <| .k rfl rfl <| .k rfl rfl <| .nil) (.a (by first | rfl | omega | (simp; done) | (simp; omega) | assumption) (by first | rfl | omega | (simp; done) | (simp; omega) | assumption) <| .nil) rfl)
        · rintro _ rfl
          refine End.norm (S' := [⟨23, true, _, _⟩, ⟨1, true, _, _⟩, ⟨7, true, _, _⟩, ⟨18, true, _, _⟩, ⟨19, true, _, _⟩, ⟨21, true, _, _⟩, ⟨22, true, _, _⟩]) (M' := [⟨17, _, _⟩]) rfl rfl ?_
          refine End.blk ?_
          refine End.nxt ?_
          refine Tr.rg ?_
          refine TrL.op (ok_add rfl (fun _ => rfl) rfl (fun _ => rfl) (fun _ => by omega)) rfl rfl ?_
          refine TrL.op (ok_move rfl (fun _ => rfl)) rfl rfl ?_
          refine TrL.fin ?_
          exact End.lp (m + 1) (by first | rfl | omega | (simp; done) | (simp; omega) | assumption) (by omega) (Ent.mk (.i rfl (by first | rfl | omega | (simp; done) | (simp; omega) | assumption) <| .k rfl rfl <| .k rfl rfl <| .k rfl rfl <| .nil) (.a (thenP_all (by omega)) (by rfl) <| .nil) rfl)
      · intro h5
        replace h5 := Int.not_lt.1 (of_decide_eq_false h5)
        refine Tr.exit ?_
        refine Exs.thn ?_
        refine Exs.thn ?_
        refine Exs.here ?_
        exact End.cut (m) (by omega) (Ent.mk (.i rfl (by first | rfl | omega | (simp; done) | (simp; omega) | assumption) <| .k rfl rfl <| .k rfl rfl <| .k rfl rfl <| .nil) (.a (by first | rfl | omega | (simp; done) | (simp; omega) | assumption) (by first | rfl | omega | (simp; done) | (simp; omega) | assumption) <| .nil) rfl)
    · rintro _ rfl
      refine End.norm (S' := [⟨19, true, _, _⟩, ⟨1, true, _, _⟩, ⟨7, true, _, _⟩, ⟨18, true, _, _⟩]) (M' := [⟨17, _, _⟩]) rfl rfl ?_
      refine End.nxt ?_
      refine Tr.seq ?_
      refine Tr.rg ?_
      refine TrL.op (ok_move rfl (fun _ => rfl)) rfl rfl ?_
      refine TrL.op (ok_assign rfl (fun _ => rfl)) rfl rfl ?_
      refine TrL.fin ?_
      refine End.nxt ?_
      refine Tr.frz 17 [6] ⟨rfl, trivial⟩ (by simp only [lenMax]; omega) rfl ?_
      refine Tr.ret ?_
      exact Rts.res1 (fn := Tryz.f42) rfl (.r rfl (by rfl) <| .nil)

end Go.Fl

/- Contracts: directions, the examples. -/
namespace Go.Fl
open Go Go.Proofs


theorem nothing_eq {o : Ori} : (decide ((o.1.length : Int) = 0) && decide ((o.2.length : Int) = 0)) = decide (o = ([], [])) := by
  rw [Bool.eq_iff_iff, Bool.and_eq_true, decide_eq_true_eq, decide_eq_true_eq, decide_eq_true_eq]
  constructor
  · rintro ⟨h1, h2⟩
    exact Prod.ext (List.eq_nil_of_length_eq_zero (by omega)) (List.eq_nil_of_length_eq_zero (by omega))
  · rintro rfl; exact ⟨rfl, rfl⟩

set_option maxRecDepth 100000 in
set_option maxHeartbeats 1000000 in
theorem ct_oToward (o : Ori) (p q : Int) : Ct Tryz.prog 16 [kRd eO o, kI p, kI q] (kTup [kRd eO (if orE (chkO o) (dirE p q) = 0 then tw o p q else ([], [])), kI (orE (chkO o) (dirE p q))]) := by
  refine Ct.mk Tryz.func16 rfl Tryz.ntmps16 rfl (fun w J => ?_)
  refine Tr.seq ?_
  refine Tr.rg ?_
  refine TrL.new (ok_box 3 rfl (fun _ => rfl) rfl) rfl rfl rfl rfl ?_
  refine TrL.new (ok_alloc 6) rfl rfl rfl rfl ?_
  refine TrL.op (ok_assign rfl (fun _ => rfl)) rfl rfl ?_
  refine TrL.fin ?_
  refine End.nxt ?_
  refine Tr.seq ?_
  refine Tr.seq ?_
  refine Tr.rg ?_
  refine TrL.op (ok_ldBS rfl (fun _ => rfl)) rfl rfl ?_
  refine TrL.op (ok_call (fun hp => ct_oCheck _) (.s rfl (fun _ => rfl) rfl <| .nil)) rfl rfl ?_
  refine TrL.op (ok_assign rfl (fun _ => rfl)) rfl rfl ?_
  refine TrL.fin ?_
  refine End.nxt ?_
  refine Tr.seq ?_
  refine Tr.rg ?_
  refine TrL.op (ok_move rfl (fun _ => rfl)) rfl rfl ?_
  refine TrL.op (ok_neq rfl (fun _ => rfl) rfl (fun _ => rfl)) rfl rfl ?_
  refine TrL.fin ?_
  refine End.nxt ?_
  refine Tr.cnd rfl ?_ ?_
  · intro h2
    replace h2 := of_decide_eq_true h2
    refine Tr.seq ?_
    refine Tr.rg ?_
    refine TrL.op (ok_build (fun hp => .nil)) rfl rfl ?_
    refine TrL.op (ok_move rfl (fun _ => rfl)) rfl rfl ?_
    refine TrL.stB rfl rfl rfl rfl ?_
    refine TrL.op (ok_assign rfl (fun _ => rfl)) rfl rfl ?_
    refine TrL.fin ?_
    refine End.nxt ?_
    refine Tr.ret ?_
    refine Rts.thn ?_
    exact Rts.resC (fn := Tryz.f16) (ts := [7]) rfl rfl rfl (aggRd rfl (by rw [orE_l h2, if_neg h2])) (.i rfl (by rw [orE_l h2]) <| .nil)
  · intro h2
    replace h2 := Classical.not_not.1 (of_decide_eq_false h2)
    have v : Valid o := valid_of h2
    have hv0 := v.pos
    have hv1 := v.len
    have hv2 := v.le
    refine Tr.skip ?_
    refine End.nxt ?_
    refine Tr.seq ?_
    refine Tr.seq ?_
    refine Tr.rg ?_
    refine TrL.op (ok_move rfl (fun _ => rfl)) rfl rfl ?_
    refine TrL.op (ok_lss rfl (fun _ => rfl) rfl (fun _ => rfl)) rfl rfl ?_
    refine TrL.op (ok_move rfl (fun _ => rfl)) rfl rfl ?_
    refine TrL.gd rfl rfl rfl (ok_move rfl (fun _ => rfl)) rfl rfl ?_
    refine TrL.gd rfl rfl rfl (ok_gtr rfl id rfl (fun _ => rfl)) rfl rfl ?_
    refine TrL.op (ok_or rfl (fun _ => rfl) rfl (fun hp h => gdF2 ((fun _ => rfl) hp) h)) rfl rfl ?_
    refine TrL.op (ok_move rfl (fun _ => rfl)) rfl rfl ?_
    refine TrL.gd rfl rfl rfl (ok_move rfl (fun _ => rfl)) rfl rfl ?_
    refine TrL.gd rfl rfl rfl (ok_lss rfl id rfl (fun _ => rfl)) rfl rfl ?_
    refine TrL.op (ok_or rfl (fun _ => rfl) rfl (fun hp h => gdF2 ((fun _ => rfl) hp) h)) rfl rfl ?_
    refine TrL.op (ok_move rfl (fun _ => rfl)) rfl rfl ?_
    refine TrL.gd rfl rfl rfl (ok_move rfl (fun _ => rfl)) rfl rfl ?_
    refine TrL.gd rfl rfl rfl (ok_gtr rfl id rfl (fun _ => rfl)) rfl rfl ?_
    refine TrL.op (ok_or rfl (fun _ => rfl) rfl (fun hp h => gdF2 ((fun _ => rfl) hp) h)) rfl rfl ?_
    refine TrL.op (ok_move rfl (fun _ => rfl)) rfl rfl ?_
    refine TrL.gd rfl rfl rfl (ok_move rfl (fun _ => rfl)) rfl rfl ?_
    refine TrL.gd rfl rfl rfl (ok_move rfl (fun _ => rfl)) rfl rfl ?_
    refine TrL.gd rfl rfl rfl (ok_call (fun hp => ct_ogcd _ _ (by simp at hp; omega) (by simp at hp; omega)) (.a rfl id <| .a rfl id <| .nil)) rfl rfl ?_
    refine TrL.gd rfl rfl rfl (ok_neq rfl id rfl (fun _ => rfl)) rfl rfl ?_
    refine TrL.op (ok_or rfl (fun _ => rfl) rfl (fun hp h => gdF2 ((fun _ => rfl) hp) h)) rfl rfl ?_
    refine TrL.fin ?_
    refine End.nxt ?_
    refine Tr.cnd rfl ?_ ?_
    · intro h4
      have hd : dirE p q = 2 := by (unfold dirE; rw [if_pos]; simp at h4; omega)
      refine Tr.seq ?_
      refine Tr.rg ?_
      refine TrL.op (ok_build (fun hp => .nil)) rfl rfl ?_
      refine TrL.stB rfl rfl rfl rfl ?_
      refine TrL.op (ok_assign rfl (fun _ => rfl)) rfl rfl ?_
      refine TrL.fin ?_
      refine End.nxt ?_
      refine Tr.ret ?_
      refine Rts.thn ?_
      exact Rts.resC (fn := Tryz.f16) (ts := [7]) rfl rfl rfl (aggRd rfl (by rw [orE_r h2, hd]; rfl)) (.i rfl (by rw [orE_r h2, hd]) <| .nil)
    · intro h4
      have hd : dirE p q = 0 := by (unfold dirE; rw [if_neg]; simp at h4; omega)
      have hT0 := TwSt.start v hd
      refine Tr.skip ?_
      refine End.nxt ?_
      refine Tr.seq ?_
      refine Tr.draw 5 mixed (by kernel_rfl) ?_
      refine RunD.op (ok_fldO rfl (fun _ => rfl)) rfl rfl ?_
      refine RunD.op (ok_ldB rfl (fun _ => rfl) rfl) rfl rfl ?_
      refine RunD.op (ok_call (fun hp => ct_cloneI _ (by omega)) (.a rfl (fun _ => rfl) <| .nil)) rfl rfl ?_
      refine RunD.op (ok_fldO rfl (fun _ => rfl)) rfl rfl ?_
      refine RunD.op (ok_ldB rfl (fun _ => rfl) rfl) rfl rfl ?_
      refine RunD.z ?_
      refine TrL.op (ok_call (fun hp => ct_cloneI _ (by omega)) (.a rfl (fun _ => rfl) <| .nil)) rfl rfl ?_
      refine TrL.op (ok_assign rfl (fun _ => rfl)) rfl rfl ?_
      refine TrL.op (ok_assign rfl (fun _ => rfl)) rfl rfl ?_
      refine TrL.fin ?_
      refine End.nxt ?_
      refine Tr.for (σ := Ori × Int × Int) [⟨6, true, _, _⟩] [⟨6, _, _⟩] (fun s => [⟨1, true, [], kI s.2.1⟩, ⟨2, true, [], kI s.2.2⟩, ⟨9, true, [], kRd (eL eI) s.1.1⟩, ⟨10, true, [], kRd (eL eI) s.1.2⟩]) (fun s => []) (fun s => TwSt o p q s.1 s.2.1 s.2.2) (fun s => s.2.2 = 0 ∧ TwSt o p q s.1 s.2.1 s.2.2) (fun s => s.2.2.natAbs) ((o, p, q)) hT0 (Ent.mk (.i rfl (by first | rfl | omega | (simp; done) | (simp; omega) | assumption) <| .i rfl (by first | rfl | omega | (simp; done) | (simp; omega) | assumption) <| .r rfl (by first | rfl | omega | (simp; done) | (simp; omega) | assumption) <| .r rfl (by first | rfl | omega | (simp; done) | (simp; omega) | assumption) <| .k rfl rfl <| .nil) (.k rfl <| .nil) rfl) ?_ ?_
      · intro s hT
        refine Tr.norm (S' := [⟨1, true, _, _⟩, ⟨2, true, _, _⟩, ⟨9, true, _, _⟩, ⟨10, true, _, _⟩, ⟨6, true, _, _⟩]) (M' := [⟨6, _, _⟩]) rfl rfl ?_
        have hpR : Perm s.1.1 o.1.length := (by have := hT.v.pR; rwa [hT.len] at this)
        have hpU : Perm s.1.2 o.1.length := (by have := hT.v.pU; rwa [hT.len] at this)
        have hpb := hT.pb
        have hqb := hT.qb
        have hfl := fun h => flo_less s.2.1 (b := s.2.2) h
        refine Tr.seq ?_
        refine Tr.seq ?_
        refine Tr.rg ?_
        refine TrL.op (ok_move rfl (fun _ => rfl)) rfl rfl ?_
        refine TrL.op (ok_neq rfl (fun _ => rfl) rfl (fun _ => rfl)) rfl rfl ?_
        refine TrL.fin ?_
        refine End.nxt ?_
        refine Tr.cnd rfl ?_ ?_
        · intro h7
          replace h7 := of_decide_eq_true h7
          refine Tr.skip ?_
          refine End.nxt ?_
          refine Tr.blk ?_
          refine Tr.seq ?_
          refine Tr.rg ?_
          refine TrL.op (ok_move rfl (fun _ => rfl)) rfl rfl ?_
          refine TrL.op (ok_move rfl (fun _ => rfl)) rfl rfl ?_
          refine TrL.op (ok_call (fun hp => ct_ofloor _ _ h7 (by have := hT.pb; omega)) (.a rfl (fun _ => rfl) <| .a rfl (fun _ => rfl) <| .nil)) rfl rfl ?_
          refine TrL.op (ok_assign rfl (fun _ => rfl)) rfl rfl ?_
          refine TrL.fin ?_
          refine End.nxt ?_
          refine Tr.seq ?_
          refine Tr.rg ?_
          refine TrL.op (ok_move rfl (fun _ => rfl)) rfl rfl ?_
          refine TrL.op (ok_move rfl (fun _ => rfl)) rfl rfl ?_
          refine TrL.op (ok_move rfl (fun _ => rfl)) rfl rfl ?_
          refine TrL.op (ok_call (fun hp => ct_othen o.1.length _ _ _ hpU hpR hv0 hv2 (by have := flo_bd (a := s.2.1) h7; have := hT.pb; omega)) (.a rfl (fun _ => rfl) <| .a rfl (fun _ => rfl) <| .a rfl (fun _ => rfl) <| .nil)) rfl rfl ?_
          refine TrL.op (ok_assign rfl (fun _ => rfl)) rfl rfl ?_
          refine TrL.fin ?_
          refine End.nxt ?_
          refine Tr.seq ?_
          refine Tr.rg ?_
          refine TrL.op (ok_move rfl (fun _ => rfl)) rfl rfl ?_
          refine TrL.op (ok_move rfl (fun _ => rfl)) rfl rfl ?_
          refine TrL.op (ok_call (fun hp => ct_oinv _ (by have := hpR.ln; omega) (by rw [hpR.ln]; exact hpR.rg)) (.a rfl (fun _ => rfl) <| .nil)) rfl rfl ?_
          refine TrL.op (ok_assign rfl (fun _ => rfl)) rfl rfl ?_
          refine TrL.op (ok_assign rfl (fun _ => rfl)) rfl rfl ?_
          refine TrL.fin ?_
          refine End.nxt ?_
          refine Tr.rg ?_
          have hf7 := hfl h7
          have hb7 := flo_bd (a := s.2.1) h7
          refine TrL.op (ok_move rfl (fun _ => rfl)) rfl rfl ?_
          refine TrL.op (ok_move rfl (fun _ => rfl)) rfl rfl ?_
          refine TrL.op (ok_move rfl (fun _ => rfl)) rfl rfl ?_
          refine TrL.op (ok_mul rfl (fun _ => rfl) rfl (fun _ => rfl) (fun _ => by omega)) rfl rfl ?_
          refine TrL.op (ok_move rfl (fun _ => rfl)) rfl rfl ?_
          refine TrL.op (ok_sub rfl (fun _ => rfl) rfl (fun _ => rfl) (fun _ => by omega)) rfl rfl ?_
          refine TrL.op (ok_assign rfl (fun _ => rfl)) rfl rfl ?_
          refine TrL.op (ok_assign rfl (fun _ => rfl)) rfl rfl ?_
          refine TrL.fin ?_
          refine End.blk ?_
          exact End.lp ((twO s.1 (flo s.2.1 s.2.2), s.2.2, flo s.2.1 s.2.2 * s.2.2 - s.2.1)) (hT.next h7) (hfl h7) (Ent.mk (.i rfl (by first | rfl | omega | (simp; done) | (simp; omega) | assumption) <| .i rfl (by first | rfl | omega | (simp; done) | (simp; omega) | assumption) <| .r rfl (by first | rfl | omega | (simp; done) | (simp; omega) | assumption) <| .r rfl (by first | rfl | omega | (simp; done) | (simp; omega) | assumption) <| .k rfl rfl <| .nil) (.k rfl <| .nil) rfl)
        · intro h7
          replace h7 := Classical.not_not.1 (of_decide_eq_false h7)
          refine Tr.exit ?_
          refine Exs.thn ?_
          refine Exs.thn ?_
          refine Exs.here ?_
          exact End.cut (s) ⟨h7, hT⟩ (Ent.mk (.i rfl (by first | rfl | omega | (simp; done) | (simp; omega) | assumption) <| .i rfl (by first | rfl | omega | (simp; done) | (simp; omega) | assumption) <| .r rfl (by first | rfl | omega | (simp; done) | (simp; omega) | assumption) <| .r rfl (by first | rfl | omega | (simp; done) | (simp; omega) | assumption) <| .k rfl rfl <| .nil) (.k rfl <| .nil) rfl)
      · rintro s ⟨hz, hT⟩
        refine Tr.norm (S' := [⟨1, true, _, _⟩, ⟨2, true, _, _⟩, ⟨9, true, _, _⟩, ⟨10, true, _, _⟩, ⟨6, true, _, _⟩]) (M' := [⟨6, _, _⟩]) rfl rfl ?_
        have hpR : Perm s.1.1 o.1.length := (by have := hT.v.pR; rwa [hT.len] at this)
        have hpU : Perm s.1.2 o.1.length := (by have := hT.v.pU; rwa [hT.len] at this)
        rw [hz] at hT
        obtain ⟨hp1, htw⟩ := hT.fin
        refine Tr.seq ?_
        refine Tr.seq ?_
        refine Tr.rg ?_
        refine TrL.op (ok_move rfl (fun _ => rfl)) rfl rfl ?_
        refine TrL.op (ok_eql rfl (fun _ => rfl) rfl (fun _ => rfl)) rfl rfl ?_
        refine TrL.fin ?_
        refine End.nxt ?_
        refine Tr.cnd rfl ?_ ?_
        · intro h12
          replace h12 := of_decide_eq_true h12
          refine Tr.rg ?_
          refine TrL.op (ok_move rfl (fun _ => rfl)) rfl rfl ?_
          refine TrL.op (ok_call (fun hp => ct_oinv _ (by have := hpR.ln; omega) (by rw [hpR.ln]; exact hpR.rg)) (.a rfl (fun _ => rfl) <| .nil)) rfl rfl ?_
          refine TrL.op (ok_move rfl (fun _ => rfl)) rfl rfl ?_
          refine TrL.op (ok_call (fun hp => ct_oinv _ (by have := hpU.ln; omega) (by rw [hpU.ln]; exact hpU.rg)) (.a rfl (fun _ => rfl) <| .nil)) rfl rfl ?_
          refine TrL.op (ok_assign rfl (fun _ => rfl)) rfl rfl ?_
          refine TrL.op (ok_assign rfl (fun _ => rfl)) rfl rfl ?_
          refine TrL.fin ?_
          refine End.nxt ?_
          refine Tr.seq ?_
          refine Tr.rg ?_
          refine TrL.op (ok_move rfl (fun _ => rfl)) rfl rfl ?_
          refine TrL.op (ok_move rfl (fun _ => rfl)) rfl rfl ?_
          refine TrL.op (ok_build (fun hp => .cons rfl rfl rfl <| .cons rfl rfl rfl <| .nil)) rfl rfl ?_
          refine TrL.stB rfl rfl rfl rfl ?_
          refine TrL.op (ok_assign rfl (fun _ => rfl)) rfl rfl ?_
          refine TrL.fin ?_
          refine End.nxt ?_
          refine Tr.ret ?_
          exact Rts.resC (fn := Tryz.f16) (ts := [7]) rfl rfl rfl (aggRd rfl (by rw [orE_r h2, hd, if_pos rfl, htw, if_pos (by omega)]; rfl)) (.i rfl (by rw [orE_r h2, hd]) <| .nil)
        · intro h12
          replace h12 := of_decide_eq_false h12
          refine Tr.skip ?_
          refine End.nxt ?_
          refine Tr.seq ?_
          refine Tr.rg ?_
          refine TrL.op (ok_move rfl (fun _ => rfl)) rfl rfl ?_
          refine TrL.op (ok_move rfl (fun _ => rfl)) rfl rfl ?_
          refine TrL.op (ok_build (fun hp => .cons rfl rfl rfl <| .cons rfl rfl rfl <| .nil)) rfl rfl ?_
          refine TrL.stB rfl rfl rfl rfl ?_
          refine TrL.op (ok_assign rfl (fun _ => rfl)) rfl rfl ?_
          refine TrL.fin ?_
          refine End.nxt ?_
          refine Tr.ret ?_
          exact Rts.resC (fn := Tryz.f16) (ts := [7]) rfl rfl rfl (aggRd rfl (by rw [orE_r h2, hd, if_pos rfl, htw, if_neg (by omega)])) (.i rfl (by rw [orE_r h2, hd]) <| .nil)

set_option maxRecDepth 100000 in
theorem ct_ell  : Ct Tryz.prog 14 [] (kRd eO (([1, 0, 2], [2, 1, 0]) : Ori)) := by
  refine Ct.mk Tryz.func14 rfl Tryz.ntmps14 rfl (fun w J => ?_)
  refine Tr.seq ?_
  refine Tr.rg ?_
  refine TrL.new (ok_alloc 0) rfl rfl rfl rfl ?_
  refine TrL.fin ?_
  refine End.nxt ?_
  refine Tr.seq ?_
  refine Tr.rg ?_
  refine TrL.new (ok_bsl eI 1 (fun hp => .cons rfl <| .cons rfl <| .cons rfl <| .nil) rfl rfl rfl rfl) rfl rfl rfl rfl ?_
  refine TrL.new (ok_bsl eI 2 (fun hp => .cons rfl <| .cons rfl <| .cons rfl <| .nil) rfl rfl rfl rfl) rfl rfl rfl rfl ?_
  refine TrL.op (ok_build (fun hp => .cons rfl rfl rfl <| .cons rfl rfl rfl <| .nil)) rfl rfl ?_
  refine TrL.stB rfl rfl rfl rfl ?_
  refine TrL.fin ?_
  refine End.nxt ?_
  refine Tr.frzC 1 0 (by simp only [lenMax]; omega) rfl rfl ?_
  refine Tr.frzC 2 0 (by simp only [lenMax]; omega) rfl rfl ?_
  refine Tr.ret ?_
  exact Rts.resC1 (fn := Tryz.f14) rfl rfl (aggRd rfl (by first | rfl | omega | (simp; done) | (simp; omega) | assumption))

set_option maxRecDepth 100000 in
theorem ct_awake  : Ct Tryz.prog 4 [] (kB true) := by
  refine Ct.mk Tryz.func4 rfl Tryz.ntmps4 rfl (fun w J => ?_)
  refine Tr.seq ?_
  refine Tr.rg ?_
  refine TrL.op (ok_assign rfl (fun _ => rfl)) rfl rfl ?_
  refine TrL.fin ?_
  refine End.nxt ?_
  refine Tr.seq ?_
  refine Tr.rg ?_
  refine TrL.op (ok_call (fun hp => ct_ell) (.nil)) rfl rfl ?_
  refine TrL.op (ok_call (fun hp => ct_oLabel _) (.a rfl (fun _ => rfl) <| .nil)) rfl rfl ?_
  refine TrL.op (ok_move rfl (fun _ => rfl)) rfl rfl ?_
  refine TrL.op (ok_ext rfl (fun _ => rfl) rfl) rfl rfl ?_
  refine TrL.op (ok_ext rfl (fun _ => rfl) rfl) rfl rfl ?_
  refine TrL.op (ok_ext rfl (fun _ => rfl) rfl) rfl rfl ?_
  refine TrL.new (ok_alloc 1) rfl rfl rfl rfl ?_
  refine TrL.stB rfl rfl rfl rfl ?_
  refine TrL.op (ok_assign rfl (fun _ => rfl)) rfl rfl ?_
  refine TrL.op (ok_assign rfl (fun _ => rfl)) rfl rfl ?_
  refine TrL.fin ?_
  refine End.nxt ?_
  refine Tr.seq ?_
  refine Tr.rg ?_
  refine TrL.op (ok_call (fun hp => ct_ell) (.nil)) rfl rfl ?_
  refine TrL.op (ok_call (fun hp => ct_oStratum _) (.a rfl (fun _ => rfl) <| .nil)) rfl rfl ?_
  refine TrL.op (ok_move rfl (fun _ => rfl)) rfl rfl ?_
  refine TrL.op (ok_ext rfl (fun _ => rfl) rfl) rfl rfl ?_
  refine TrL.op (ok_ext rfl (fun _ => rfl) rfl) rfl rfl ?_
  refine TrL.op (ok_assign rfl (fun _ => rfl)) rfl rfl ?_
  refine TrL.op (ok_assign rfl (fun _ => rfl)) rfl rfl ?_
  refine TrL.fin ?_
  refine End.nxt ?_
  refine Tr.seq ?_
  refine Tr.rg ?_
  refine TrL.op (ok_call (fun hp => ct_ell) (.nil)) rfl rfl ?_
  refine TrL.op (ok_call (fun hp => ct_oToward _ _ _) (.a rfl (fun _ => rfl) <| .a rfl (fun _ => rfl) <| .a rfl (fun _ => rfl) <| .nil)) rfl rfl ?_
  refine TrL.op (ok_move rfl (fun _ => rfl)) rfl rfl ?_
  refine TrL.op (ok_ext rfl (fun _ => rfl) rfl) rfl rfl ?_
  refine TrL.op (ok_ext rfl (fun _ => rfl) rfl) rfl rfl ?_
  refine TrL.new (ok_alloc 6) rfl rfl rfl rfl ?_
  refine TrL.stB rfl rfl rfl rfl ?_
  refine TrL.op (ok_assign rfl (fun _ => rfl)) rfl rfl ?_
  refine TrL.fin ?_
  refine End.nxt ?_
  refine Tr.seq ?_
  refine Tr.rg ?_
  refine TrL.op (ok_move rfl (fun _ => rfl)) rfl rfl ?_
  refine TrL.op (ok_eql rfl (fun _ => rfl) rfl (fun _ => rfl)) rfl rfl ?_
  refine TrL.op (ok_move rfl (fun _ => rfl)) rfl rfl ?_
  refine TrL.gd rfl rfl rfl (ok_fldO rfl (fun _ => rfl)) rfl rfl ?_
  refine TrL.gd rfl rfl rfl (ok_ldB rfl id rfl) rfl rfl ?_
  refine TrL.gd rfl rfl rfl (ok_bslJ eI (fun hp => .cons rfl <| .cons rfl <| .cons rfl <| .nil) rfl rfl rfl rfl) rfl rfl ?_
  refine TrL.gd rfl rfl rfl (ok_call (fun hp => ct_Ints _ _) (.a rfl id <| .a rfl id <| .nil)) rfl rfl ?_
  refine TrL.op (ok_and rfl (fun _ => rfl) rfl (fun hp h => gdT2 ((fun _ => rfl) hp) h)) rfl rfl ?_
  refine TrL.op (ok_move rfl (fun _ => rfl)) rfl rfl ?_
  refine TrL.gd rfl rfl rfl (ok_fldO rfl (fun _ => rfl)) rfl rfl ?_
  refine TrL.gd rfl rfl rfl (ok_ldB rfl id rfl) rfl rfl ?_
  refine TrL.gd rfl rfl rfl (ok_bslJ eI (fun hp => .cons rfl <| .cons rfl <| .cons rfl <| .nil) rfl rfl rfl rfl) rfl rfl ?_
  refine TrL.gd rfl rfl rfl (ok_call (fun hp => ct_Ints _ _) (.a rfl id <| .a rfl id <| .nil)) rfl rfl ?_
  refine TrL.op (ok_and rfl (fun _ => rfl) rfl (fun hp h => gdT2 ((fun _ => rfl) hp) h)) rfl rfl ?_
  refine TrL.op (ok_move rfl (fun _ => rfl)) rfl rfl ?_
  refine TrL.gd rfl rfl rfl (ok_move rfl (fun _ => rfl)) rfl rfl ?_
  refine TrL.gd rfl rfl rfl (ok_bslJ eI (fun hp => .cons rfl <| .cons rfl <| .cons rfl <| .nil) rfl rfl rfl rfl) rfl rfl ?_
  refine TrL.gd rfl rfl rfl (ok_call (fun hp => ct_Ints _ _) (.a rfl id <| .a rfl id <| .nil)) rfl rfl ?_
  refine TrL.op (ok_and rfl (fun _ => rfl) rfl (fun hp h => gdT2 ((fun _ => rfl) hp) h)) rfl rfl ?_
  refine TrL.op (ok_move rfl (fun _ => rfl)) rfl rfl ?_
  refine TrL.gd rfl rfl rfl (ok_move rfl (fun _ => rfl)) rfl rfl ?_
  refine TrL.gd rfl rfl rfl (ok_eql rfl id rfl (fun _ => rfl)) rfl rfl ?_
  refine TrL.op (ok_and rfl (fun _ => rfl) rfl (fun hp h => gdT2 ((fun _ => rfl) hp) h)) rfl rfl ?_
  refine TrL.op (ok_move rfl (fun _ => rfl)) rfl rfl ?_
  refine TrL.gd rfl rfl rfl (ok_move rfl (fun _ => rfl)) rfl rfl ?_
  refine TrL.gd rfl rfl rfl (ok_bslJ eI (fun hp => .cons rfl <| .nil) rfl rfl rfl rfl) rfl rfl ?_
  refine TrL.gd rfl rfl rfl (ok_call (fun hp => ct_Ints _ _) (.a rfl id <| .a rfl id <| .nil)) rfl rfl ?_
  refine TrL.op (ok_and rfl (fun _ => rfl) rfl (fun hp h => gdT2 ((fun _ => rfl) hp) h)) rfl rfl ?_
  refine TrL.op (ok_move rfl (fun _ => rfl)) rfl rfl ?_
  refine TrL.gd rfl rfl rfl (ok_move rfl (fun _ => rfl)) rfl rfl ?_
  refine TrL.gd rfl rfl rfl (ok_eql rfl id rfl (fun _ => rfl)) rfl rfl ?_
  refine TrL.op (ok_and rfl (fun _ => rfl) rfl (fun hp h => gdT2 ((fun _ => rfl) hp) h)) rfl rfl ?_
  refine TrL.op (ok_move rfl (fun _ => rfl)) rfl rfl ?_
  refine TrL.gd rfl rfl rfl (ok_fldO rfl (fun _ => rfl)) rfl rfl ?_
  refine TrL.gd rfl rfl rfl (ok_ldB rfl id rfl) rfl rfl ?_
  refine TrL.gd rfl rfl rfl (ok_bslJ eI (fun hp => .cons rfl <| .cons rfl <| .cons rfl <| .nil) rfl rfl rfl rfl) rfl rfl ?_
  refine TrL.gd rfl rfl rfl (ok_call (fun hp => ct_Ints _ _) (.a rfl id <| .a rfl id <| .nil)) rfl rfl ?_
  refine TrL.op (ok_and rfl (fun _ => rfl) rfl (fun hp h => gdT2 ((fun _ => rfl) hp) h)) rfl rfl ?_
  refine TrL.op (ok_assign rfl (fun _ => rfl)) rfl rfl ?_
  refine TrL.fin ?_
  refine End.nxt ?_
  refine Tr.ret ?_
  exact Rts.res1 (fn := Tryz.f4) rfl (.b rfl (by decide +kernel) <| .nil)

set_option maxRecDepth 100000 in
theorem ct_nothing (o : Ori) : Ct Tryz.prog 11 [kRd eO o] (kB (decide (o = ([], [])))) := by
  refine Ct.mk Tryz.func11 rfl Tryz.ntmps11 rfl (fun w J => ?_)
  refine Tr.seq ?_
  refine Tr.rg ?_
  refine TrL.new (ok_box 1 rfl (fun _ => rfl) rfl) rfl rfl rfl rfl ?_
  refine TrL.op (ok_assign rfl (fun _ => rfl)) rfl rfl ?_
  refine TrL.fin ?_
  refine End.nxt ?_
  refine Tr.seq ?_
  refine Tr.rg ?_
  refine TrL.op (ok_fldO rfl (fun _ => rfl)) rfl rfl ?_
  refine TrL.op (ok_ldB rfl (fun _ => rfl) rfl) rfl rfl ?_
  refine TrL.op (ok_lenJ rfl (fun _ => rfl)) rfl rfl ?_
  refine TrL.op (ok_eql rfl (fun _ => rfl) rfl (fun _ => rfl)) rfl rfl ?_
  refine TrL.op (ok_move rfl (fun _ => rfl)) rfl rfl ?_
  refine TrL.gd rfl rfl rfl (ok_fldO rfl (fun _ => rfl)) rfl rfl ?_
  refine TrL.gd rfl rfl rfl (ok_ldB rfl id rfl) rfl rfl ?_
  refine TrL.gd rfl rfl rfl (ok_lenJ rfl id) rfl rfl ?_
  refine TrL.gd rfl rfl rfl (ok_eql rfl id rfl (fun _ => rfl)) rfl rfl ?_
  refine TrL.op (ok_and rfl (fun _ => rfl) rfl (fun hp h => gdT2 ((fun _ => rfl) hp) h)) rfl rfl ?_
  refine TrL.op (ok_assign rfl (fun _ => rfl)) rfl rfl ?_
  refine TrL.fin ?_
  refine End.nxt ?_
  refine Tr.ret ?_
  exact Rts.res1 (fn := Tryz.f11) rfl (.b rfl (nothing_eq) <| .nil)

set_option maxRecDepth 100000 in
theorem ct_Few (o : Ori) : Ct Tryz.prog 5 [kRd eO o] (kB (decide (o.1.length ≤ 12 ∧ o.2.length ≤ 12 ∨ 60 < o.1.length ∧ o.1.length ≤ 62 ∧ o.2.length ≤ 62))) := by
  refine Ct.mk Tryz.func5 rfl Tryz.ntmps5 rfl (fun w J => ?_)
  refine Tr.seq ?_
  refine Tr.rg ?_
  refine TrL.new (ok_box 1 rfl (fun _ => rfl) rfl) rfl rfl rfl rfl ?_
  refine TrL.op (ok_assign rfl (fun _ => rfl)) rfl rfl ?_
  refine TrL.fin ?_
  refine End.nxt ?_
  refine Tr.seq ?_
  refine Tr.draw 7 mixed (by kernel_rfl) ?_
  refine RunD.op (ok_fldO rfl (fun _ => rfl)) rfl rfl ?_
  refine RunD.op (ok_ldB rfl (fun _ => rfl) rfl) rfl rfl ?_
  refine RunD.op (ok_lenJ rfl (fun _ => rfl)) rfl rfl ?_
  refine RunD.op (ok_fldO rfl (fun _ => rfl)) rfl rfl ?_
  refine RunD.op (ok_ldB rfl (fun _ => rfl) rfl) rfl rfl ?_
  refine RunD.op (ok_lenJ rfl (fun _ => rfl)) rfl rfl ?_
  refine RunD.op (ok_assign rfl (fun _ => rfl)) rfl rfl ?_
  refine RunD.z ?_
  refine TrL.op (ok_assign rfl (fun _ => rfl)) rfl rfl ?_
  refine TrL.fin ?_
  refine End.nxt ?_
  refine Tr.seq ?_
  refine Tr.rg ?_
  refine TrL.op (ok_move rfl (fun _ => rfl)) rfl rfl ?_
  refine TrL.op (ok_leq rfl (fun _ => rfl) rfl (fun _ => rfl)) rfl rfl ?_
  refine TrL.op (ok_move rfl (fun _ => rfl)) rfl rfl ?_
  refine TrL.gd rfl rfl rfl (ok_move rfl (fun _ => rfl)) rfl rfl ?_
  refine TrL.gd rfl rfl rfl (ok_leq rfl id rfl (fun _ => rfl)) rfl rfl ?_
  refine TrL.op (ok_and rfl (fun _ => rfl) rfl (fun hp h => gdT2 ((fun _ => rfl) hp) h)) rfl rfl ?_
  refine TrL.op (ok_move rfl (fun _ => rfl)) rfl rfl ?_
  refine TrL.gd rfl rfl rfl (ok_move rfl (fun _ => rfl)) rfl rfl ?_
  refine TrL.gd rfl rfl rfl (ok_gtr rfl id rfl (fun _ => rfl)) rfl rfl ?_
  refine TrL.gd rfl rfl rfl (ok_move rfl id) rfl rfl ?_
  refine TrL.gd rfl rfl rfl (ok_move rfl (fun _ => rfl)) rfl rfl ?_
  refine TrL.gd rfl rfl rfl (ok_leq rfl id rfl (fun _ => rfl)) rfl rfl ?_
  refine TrL.gd rfl rfl rfl (ok_and rfl id rfl (fun hp h => gdT2 (id hp) h)) rfl rfl ?_
  refine TrL.gd rfl rfl rfl (ok_move rfl id) rfl rfl ?_
  refine TrL.gd rfl rfl rfl (ok_move rfl (fun _ => rfl)) rfl rfl ?_
  refine TrL.gd rfl rfl rfl (ok_leq rfl id rfl (fun _ => rfl)) rfl rfl ?_
  refine TrL.gd rfl rfl rfl (ok_and rfl id rfl (fun hp h => gdT2 (id hp) h)) rfl rfl ?_
  refine TrL.op (ok_or rfl (fun _ => rfl) rfl (fun hp h => gdF2 ((fun _ => rfl) hp) h)) rfl rfl ?_
  refine TrL.op (ok_assign rfl (fun _ => rfl)) rfl rfl ?_
  refine TrL.fin ?_
  refine End.nxt ?_
  refine Tr.ret ?_
  exact Rts.res1 (fn := Tryz.f5) rfl (.b rfl (by first | rfl | (simp; omega) | (rw [Bool.eq_iff_iff]; simp; omega)) <| .nil)

end Go.Fl

/- Elements of an array of the call's own. No program in sight. -/
namespace Go.Fl
open Go Go.RowKit
section
variable {P : Program} {c : Ctx} {S : Slots} {M : Conts} {p : Bool} {d : Option Tmp} {ty : TypeId} {pos : String} {af : Array Edge} {gd : Option (Nat × Bool)} {x y : Operand} {b b' : Bool}
end
end Go.Fl

/- Rows that a struct of the call's own holds: they begin as nil, and are appended to; maps of integers. No program in sight. -/
namespace Go.Fl
open Go Go.RowKit

instance {ks kx out : List Know} [h : SetAt ks 0 kx out] : SetAt ks (0 + 0) kx out := h
/-! ### 1. Cells of which less is said -/
inductive Wk : List Know → List Know → Prop
  | nil : Wk [] []
  | k {k : Know} {ks ls : List Know} (r : Wk ks ls) : Wk (k :: ks) (k :: ls)
  | any {k : Know} {ks ls : List Know} (r : Wk ks ls) : Wk (k :: ks) (kAny :: ls)
theorem Wk.imp {ks ls : List Know} (h : Wk ks ls) {g : Gh} : ∀ {vs : List Value}, allK g ks vs → allK g ls vs := by
  induction h with
  | nil => intro vs h; exact h
  | k _ ih => intro vs h; cases vs with
    | nil => exact h.elim
    | cons v vs => exact ⟨h.1, ih h.2⟩
  | any _ ih => intro vs h; cases vs with
    | nil => exact h.elim
    | cons v vs => exact ⟨trivial, ih h.2⟩
theorem Sat.conC {c : Ctx} {S : Slots} {M M' : Conts} {a : Act} {g : Gh} {w : World} (h : Sat c S M a g w) {v : Nat} {ct ct' : Cont} {dep dep' : List Nat} [hl : LkM M v ct dep] (hc : ∀ g b o, ct g b o → ct' g b o) (hd : CDep ct' dep') (hup : UpM M v ct' dep' M') (hs : ∀ t ∈ dep', t ∈ tags M) : Sat c S M' a g w := by
  have htag := hup.tags
  refine ⟨h.ok, h.slots, fun e he => ?_, fun t ht => ?_, ?_, fun e he => ?_, fun e he => ?_, h.defers, h.size⟩
  · rcases hup.mem h.nodup e he with rfl | ⟨he, _⟩
    · obtain ⟨b, h1, h2⟩ := h.conts _ hl.mem
      exact ⟨b, h1, hc _ _ _ h2⟩
    · exact h.conts e he
  · have := h.dom t ht
    show t ∈ tags M'
    rw [htag]; exact this
  · show (tags M').Nodup
    rw [htag]; exact h.nodup
  · exact ⟨(h.sdep e he).1, fun t ht => by show t ∈ tags M'; rw [htag]; exact (h.sdep e he).2 t ht⟩
  · rcases hup.mem h.nodup e he with rfl | ⟨he, _⟩
    · exact ⟨hd, fun t ht => by show t ∈ tags M'; rw [htag]; exact hs t ht⟩
    · exact ⟨(h.cdep e he).1, fun t ht => by show t ∈ tags M'; rw [htag]; exact (h.cdep e he).2 t ht⟩
/-! ### 2. A nil slice in a struct's cell is a row that is nowhere yet -/
theorem Sat.growC {c : Ctx} {S : Slots} {M M1 : Conts} {a : Act} {g : Gh} {w : World} (h : Sat c S M a g w) (v o u : Nat) {ks ks' : List Know} {dep dep' : List Nat} [hl : LkM M v (cBlk ks) dep] (ho : ks[o]? = some (kDet (.slice none 0 0))) (he : ks' = ks.set o (kOsl u 0)) (hd : CDep (cBlk ks') dep') (hup : UpM M v (cBlk ks') dep' M1)
    (hf : subT [u] (tags M) = false) {α : Type} (et : TypeId) (e : Enc α) (hs : subT dep' (u :: tags M) = true) (hdk : ∀ k ∈ ks, ∃ d, KDep k d ∧ ∀ t ∈ d, t ∈ tags M) : ∃ g', Sat c S (⟨u, [], cArr true et e [] 0⟩ :: M1) a g' w := by
  have hfresh : u ∉ tags M := by
    intro ht
    have : subT [u] (tags M) = true := by
      simp only [subT, Bool.and_true]
      exact List.any_eq_true.2 ⟨u, ht, Nat.beq_refl u⟩
    rw [hf] at this; cases this
  have hnone : g.M u = none := by
    cases hm : g.M u with
    | none => rfl
    | some b => exact absurd (h.dom u (by rw [hm]; simp)) hfresh
  have hle : g.le (g.add u .nil) := ⟨JV.le_refl _, fun t b hb => by
    simp only [Gh.add]
    by_cases ht : t = u
    · subst ht; rw [hnone] at hb; cases hb
    · rw [if_neg ht]; exact hb⟩
  have hblk : ∀ t b cap, (g.add u .nil).M t = some (.blk b cap) → g.M t = some (.blk b cap) := fun t b cap ht => by
    simp only [Gh.add] at ht
    by_cases e : t = u
    · rw [if_pos e] at ht; cases ht
    · rw [if_neg e] at ht; exact ht
  have htag := hup.tags
  refine ⟨g.add u .nil, ⟨⟨h.ok.bel, h.ok.jle, h.ok.jold, h.ok.im, fun t b cap ht => h.ok.own t b cap (hblk _ _ _ ht), fun t t' b c1 c2 h1 h2 => h.ok.inj t t' b c1 c2 (hblk _ _ _ h1) (hblk _ _ _ h2)⟩, h.slots.on h.sdep h.conts hle, fun x hx => ?_, fun t ht => ?_, ?_, fun x hx => ?_, fun x hx => ?_, h.defers, h.size⟩⟩
  · rcases List.mem_cons.1 hx with rfl | hx
    · exact ⟨_, Gh.add_same _ _ _, rfl, rfl⟩
    · rcases hup.mem h.nodup x hx with rfl | ⟨hx, _⟩
      · obtain ⟨b, h1, cs, ty, h2, h3⟩ := h.conts _ hl.mem
        refine ⟨b, hle.2 _ _ h1, cs, ty, h2, ?_⟩
        have hmono : allK (g.add u .nil) ks cs.toList := by
          have : ∀ {ls : List Know} {vs : List Value}, (∀ k ∈ ls, ∃ d, KDep k d ∧ ∀ t ∈ d, t ∈ tags M) → allK g ls vs → allK (g.add u .nil) ls vs := by
            intro ls
            induction ls with
            | nil => intro vs _ h; cases vs <;> exact h
            | cons k ls ih =>
              intro vs hk hh
              cases vs with
              | nil => exact hh.elim
              | cons x vs =>
                obtain ⟨d, q1, q2⟩ := hk k List.mem_cons_self
                exact ⟨know_on h.conts hle q1 q2 hh.1, ih (fun z hz => hk z (List.mem_cons_of_mem _ hz)) hh.2⟩
          exact this hdk h3
        obtain ⟨x, hx1, hx2⟩ := allK_get h3 ho
        have hx2 : x = .slice none 0 0 := hx2
        have := allK_set hmono o (k := kOsl u 0) (v := x) (.inl ⟨Gh.add_same _ _ _, rfl, hx2⟩)
        rw [he]
        have hcs : cs.toList.set o x = cs.toList := by
          refine List.ext_getElem? fun j => ?_
          by_cases e : o = j
          · subst e
            rw [List.getElem?_set_self (List.getElem?_eq_some_iff.1 hx1).1, hx1]
          · rw [List.getElem?_set_ne e]
        rwa [hcs] at this
      · obtain ⟨b, h1, h2⟩ := h.conts x hx
        exact ⟨b, hle.2 _ _ h1, (h.cdep x hx).1.dep hle.1 (fun t ht => by obtain ⟨b, hb⟩ := h.conts.tag ((h.cdep x hx).2 t ht); rw [hb]; exact hle.2 t b hb) h2⟩
  · by_cases e' : t = u
    · subst e'; exact List.mem_cons_self
    · have : g.M t ≠ none := by simpa [Gh.add, e'] using ht
      have := h.dom t this
      exact List.mem_cons_of_mem _ (by show t ∈ tags M1; rw [htag]; exact this)
  · refine List.nodup_cons.2 ⟨?_, ?_⟩
    · show u ∉ tags M1
      rw [htag]; exact hfresh
    · show (tags M1).Nodup
      rw [htag]; exact h.nodup
  · exact ⟨(h.sdep x hx).1, fun t ht => List.mem_cons_of_mem _ (by show t ∈ tags M1; rw [htag]; exact (h.sdep x hx).2 t ht)⟩
  · rcases List.mem_cons.1 hx with rfl | hx
    · exact ⟨inferInstance, fun _ h => by cases h⟩
    · rcases hup.mem h.nodup x hx with rfl | ⟨hx, _⟩
      · refine ⟨hd, fun t ht => ?_⟩
        have := subT_spec hs t ht
        rcases List.mem_cons.1 this with rfl | this
        · exact List.mem_cons_self
        · exact List.mem_cons_of_mem _ (by show t ∈ tags M1; rw [htag]; exact this)
      · exact ⟨(h.cdep x hx).1, fun t ht => List.mem_cons_of_mem _ (by show t ∈ tags M1; rw [htag]; exact (h.cdep x hx).2 t ht)⟩
/-- All of these hang on tags of the list alone. -/
class KsAll (ks : List Know) (L : List Nat) : Prop where
  all : ∀ k ∈ ks, ∃ d, KDep k d ∧ ∀ t ∈ d, t ∈ L
instance {L : List Nat} : KsAll [] L := ⟨fun _ h => by cases h⟩
theorem KsAll.cons {k : Know} {ks : List Know} {L d : List Nat} (h : KDep k d) (hd : subT d L = true) (r : KsAll ks L) : KsAll (k :: ks) L := ⟨fun x hx => by
  rcases List.mem_cons.1 hx with rfl | hx
  · exact ⟨d, h, subT_spec hd⟩
  · exact r.all x hx⟩
/-! ### 3. Maps from integers to integers -/
def cMapI (xs : List Int) (ys : List Int) : Cont := fun g b o => xs.length = ys.length ∧ cMap (xs.map (Value.int .i64)) (ys.map fun y => kI y) g b o
theorem allK_ints {g g' : Gh} : ∀ {ys : List Int} {vs : List Value}, allK g (ys.map fun y => kI y) vs → allK g' (ys.map fun y => kI y) vs
  | [], [], h => h
  | _ :: ys, _ :: vs, h => ⟨h.1, allK_ints (ys := ys) (vs := vs) h.2⟩
  | [], _ :: _, h => h.elim
  | _ :: _, [], h => h.elim
instance {xs ys : List Int} : CDep (cMapI xs ys) [] := ⟨fun _ _ ⟨h0, h1, es, cl, h2, h3, h4⟩ => ⟨h0, h1, es, cl, h2, h3, allK_ints h4⟩⟩
instance (ys : List Int) : KsDep (ys.map fun y => kI y) [] := ⟨fun _ _ h => allK_ints h⟩
section
variable {P : Program} {c : Ctx} {ops : Array Oper} {S : Slots} {M M' : Conts} {rest : List Oper} {Q : Exit → Act → World → Prop}
variable {p : Bool} {d : Option Tmp} {ty : TypeId} {pos : String} {af : Array Edge} {gd : Option (Nat × Bool)} {x y z : Operand} {b b' : Bool} {code : Code}
theorem TrL.wkC (v : Nat) {ks ls : List Know} {dep dep' : List Nat} [hl : LkM M v (cBlk ks) dep] (hw : Wk ks ls) [hd : KsDep ls dep'] [hup : UpM M v (cBlk ls) dep' M'] (hs : subT dep' (tags M) = true) (K : TrL P c ops S M' rest Q) : TrL P c ops S M rest Q :=
  fun a g w h => K a g w (h.conC (ct := cBlk ks) (fun _ _ _ ⟨cs, ty, h1, h2⟩ => ⟨cs, ty, h1, hw.imp h2⟩) inferInstance hup (subT_spec hs))
theorem Tr.growC (v o u : Nat) {ks : List Know} {dep dep' : List Nat} [hl : LkM M v (cBlk ks) dep] (ho : ks[o]? = some (kDet (.slice none 0 0))) {ks' : List Know} (he : ks' = ks.set o (kOsl u 0)) [hd : KsDep ks' dep'] [hup : UpM M v (cBlk ks') dep' M']
    (hf : subT [u] (tags M) = false) {α : Type} (et : TypeId) (e : Enc α) (hs : subT dep' (u :: tags M) = true) (hk : KsAll ks (tags M)) (K : Tr P c S (⟨u, [], cArr true et e [] 0⟩ :: M') code Q) : Tr P c S M code Q :=
  fun a _ w h => let ⟨g', h'⟩ := h.growC v o u ho he inferInstance hup hf et e hs hk.all; K a g' w h'
end
end Go.Fl

/- Equal structs; how many keys a map has. No program in sight. -/
namespace Go.Fl
open Go Go.RowKit
/-- A struct type of k integers at which equality can be asked. -/
class TyInts (P : Program) (t : TypeId) (k : Nat) : Prop where
  grd : P.eqGuardType P.depth t = false
  eq : ∀ (xs : List Int) (w : World), xs.length = k → (Op.equalIn 10000 t (.agg (xs.map (Value.int .i64)).toArray) (.agg (xs.map (Value.int .i64)).toArray)).run P w = .ok true w
def intFld (P : Program) (k : Nat) (f : Field) : Bool := (match P.underlying f.type with | some (.int _) => true | _ => false) && decide (f.offset < k)
section
variable {P : Program} {c : Ctx} {S : Slots} {M : Conts} {p : Bool} {d : Option Tmp} {ty : TypeId} {pos : String} {af : Array Edge} {gd : Option (Nat × Bool)} {x y : Operand} {b b' : Bool}
end
end Go.Fl

/- A row of the call's own may be lent to a call that only reads; regions that draw their order, some of whose operations write: what yields the same in any world may come first, the rest is gone through as it may come up. No program in sight. -/
namespace Go.Fl
open Go Go.RowKit

/-! ### 1. Lending -/
class KFree (k : Know) : Prop where
  go : ∀ {g g' : Gh} {v : Value}, k g v → k g' v
instance {v : Value} : KFree (kDet v) := ⟨fun h => h⟩
section
variable {P : Program} {c : Ctx} {S : Slots} {M : Conts} {p : Bool} {d : Option Tmp} {ty : TypeId} {pos : String} {af : Array Edge} {gd : Option (Nat × Bool)}
variable {x y z : Operand} {b b' b'' : Bool}
end

/-! ### 2. Any order, gone through -/
def onlyN (Q : Exit → Act → World → Prop) : Exit → Act → World → Prop := fun e a w => e = .normal ∧ Q .normal a w
def Nx (K : Act → World → Prop) : Exit → Act → World → Prop := fun e a w => e = .normal ∧ K a w
def TrA (P : Program) (c : Ctx) (ops : Array Oper) (Q : Exit → Act → World → Prop) (Sp : World → Prop) (n : Nat) (listed : Array Bool) (S : Slots) (M : Conts) : Prop :=
  ∀ a g w, Sat c S M a g w → Sp w → wpAnyH P .any ops (onlyN Q) Sp n listed a w
/-- The operation yields one value in every world that meets Sp. -/
def YOk (P : Program) (c : Ctx) (S : Slots) (M : Conts) (Sp : World → Prop) (o : Oper) (k : Know) : Prop :=
  ∀ a g w, Sat c S M a g w → Sp w → ∃ v, (∀ w', Sp w' → (execOp a.eval o).run P w' = .ok (.value v) w') ∧ k g v
theorem Oper.wp_onN {P : Program} {o : Oper} {a : Act} {w : World} {K K' : Act → World → Prop} {Q : Exit → Act → World → Prop}
    (h : o.wp P a w K (Nx K')) : o.wp P a w K Q := by
  unfold Oper.wp at *
  generalize (execOp a.eval o).run P w = r at *
  cases r with
  | ok n w' =>
    cases n <;> simp only [Oper.upon] at h ⊢ <;>
      first
        | exact h
        | exact Calls.mono h (fun e w'' he => by
            cases e with
            | returned v => exact he
            | panicked ch => exact absurd he.1 (by simp)
            | outgrown => obtain ⟨_, _, hf⟩ := he; exact absurd hf.1 (by simp))
        | exact Rows.mono h (fun _ _ he => he)
        | exact absurd h.1 (by simp)
  | halt x w' =>
    cases x <;> simp only [Oper.upon] at h ⊢ <;> first | exact absurd h.1 (by simp) | exact h
section
variable {P : Program} {c : Ctx} {ops : Array Oper} {S : Slots} {M : Conts} {Q : Exit → Act → World → Prop} {Sp : World → Prop} {n : Nat} {listed : Array Bool}
variable {d : Nat} {oop : Op} {ty : TypeId} {pos : String} {af : Array Edge}
theorem TrA.take (i : Nat) (listed' : Array Bool) {k : Know} {dep : List Nat} (hs : Region.noSelect ops = true) (hf : Region.free .any ops listed i = true) (hr : (Region.ready .any ops listed).contains i = true) (hset : listed.setIfInBounds i true = listed')
    (hi : ops[i]? = some ⟨some d, oop, ty, pos, af, none⟩) (hy : YOk P c S M Sp ⟨some d, oop, ty, pos, af, none⟩ k) [hk : KDep k dep] (hsub : subT dep (tags M) = true) (hn : Nat.blt d c.n = true)
    (K : TrA P c ops Q Sp n listed' (⟨d, true, dep, k⟩ :: S) M) : TrA P c ops Q Sp (n + 1) listed S M := by
  intro a g w hsat hsp
  obtain ⟨v, h1, h2⟩ := hy a g w hsat hsp
  refine wpAnyH_take hi hs hf hr (fun _ _ _ h => absurd h.1 (by simp)) (.inl ⟨rfl, h1⟩) hsp ?_
  rw [hset]
  exact K _ g _ (hsat.did (Did.same hsat.ok h2) (fun _ h => by cases h) hk (subT_spec hsub) (by simpa [Nat.blt_eq] using hn)) hsp
theorem TrA.all (rs : List Nat) (hr : Region.ready .any ops listed = rs) (hne : rs ≠ [])
    (h : ∀ i ∈ rs, ∃ o, ops[i]? = some o ∧ TrL P c ops S M [o] (Nx fun a w => Sp w ∧ wpAnyH P .any ops (onlyN Q) Sp n (listed.setIfInBounds i true) a w)) : TrA P c ops Q Sp (n + 1) listed S M := by
  intro a g w hsat _
  refine wpAnyH_all hr hne fun i hi => ?_
  obtain ⟨o, ho, ht⟩ := h i hi
  have h1 := ht a g w hsat
  unfold wpOp
  rw [ho]
  simp only [wpList] at h1
  simp only
  split
  · rename_i hw
    rw [if_pos hw] at h1
    rcases h1 with h1 | ⟨_, _, _, h1⟩
    · exact .inl (Oper.wp_mono (fun _ _ h => h.2) (Oper.wp_onN h1))
    · exact absurd h1.1 (by simp)
  · rename_i hw
    rw [if_neg hw] at h1
    exact h1.2
theorem TrA.one (i : Nat) (hr : Region.ready .any ops listed = [i]) {o : Oper} (ho : ops[i]? = some o)
    (h : TrL P c ops S M [o] (Nx fun a w => Sp w ∧ wpAnyH P .any ops (onlyN Q) Sp n (listed.setIfInBounds i true) a w)) : TrA P c ops Q Sp (n + 1) listed S M :=
  TrA.all [i] hr (by simp) (fun j hj => by rw [List.mem_singleton] at hj; subst hj; exact ⟨o, ho, h⟩)
theorem TrA.k {listed0 : Array Bool} (listed' : Array Bool) (hl : listed0 = listed') (hSp : ∀ a g w, Sat c S M a g w → Sp w) (K : TrA P c ops Q Sp n listed' S M) : TrL P c ops S M [] (Nx fun a w => Sp w ∧ wpAnyH P .any ops (onlyN Q) Sp n listed0 a w) :=
  fun a g w hs => wpList_nil ⟨rfl, hSp a g w hs, by rw [hl]; exact K a g w hs (hSp a g w hs)⟩
theorem TrA.done (hr : Region.ready .any ops listed = []) (h : End c S M Q) : TrA P c ops Q Sp n listed S M := fun a g w hs _ => wpAnyH_done hr ⟨rfl, h a g w hs⟩ n
/-! ### 3. Blocks that nobody writes -/
def cPin (ct : Cont) (q : Bk × Option Obj) : Cont := fun g bk o => ct g bk o ∧ bk = q.1 ∧ o = q.2
instance {ct : Cont} {q : Bk × Option Obj} {dep : List Nat} [h : CDep ct dep] : CDep (cPin ct q) dep := ⟨fun hl hd ⟨h1, h2⟩ => ⟨h.dep hl hd h1, h2⟩⟩
def pinM (f : Nat → Bk × Option Obj) (M : Conts) : Conts := M.map fun e => ⟨e.t, e.dep, cPin e.c (f e.t)⟩
def pinS (f : Nat → Bk × Option Obj) (M : Conts) : World → Prop := fun w => ∀ e ∈ M, World.objAt w (f e.t).1 = (f e.t).2
end

/-! ### 4. What yields the same in any world -/
section
variable {P : Program} {c : Ctx} {S : Slots} {M : Conts} {Sp : World → Prop} {d : Option Tmp} {ty : TypeId} {pos : String} {af : Array Edge} {gd : Option (Nat × Bool)} {x y : Operand}
end
end Go.Fl

/- Functions that change a block which the caller lends by a pointer: their walk. No program in sight. -/
namespace Go.Fl
open Go Go.RowKit

/-- A pointer into the call's own thing t, of which the block is known by name. -/
def kOwnAt (t o bl : Nat) : Know := fun g v => (∃ cap, g.M t = some (.blk bl cap)) ∧ v = .pointer (some ⟨bl, o, none⟩)
instance (t o bl : Nat) : KDep (kOwnAt t o bl) [t] := ⟨fun _ hd ⟨⟨cap, h1⟩, h2⟩ => ⟨⟨cap, (hd t (by simp)).trans h1⟩, h2⟩⟩
instance (t o bl : Nat) : KHas (kOwnAt t o bl) t := ⟨fun ⟨⟨cap, h1⟩, _⟩ => by rw [h1]; simp⟩
theorem kOwnAt.own {t o bl : Nat} {g : Gh} {v : Value} (h : kOwnAt t o bl g v) : kOwn t o g v := let ⟨⟨cap, h1⟩, h2⟩ := h; ⟨bl, cap, h1, h2⟩
section
variable {P : Program} {c : Ctx} {S : Slots} {M : Conts} {p : Bool} {d : Option Tmp} {ty : TypeId} {pos : String} {af : Array Edge} {gd : Option (Nat × Bool)} {x : Operand} {b : Bool} {Sp : World → Prop}
end
def RetB (w : World) (J : JV) (b cap : Nat) (res : Know) (ct' : Cont) : Ending → World → Prop := fun e w' => ∃ r J', e = .returned r ∧ But (.blk b cap) w w' ∧ J.le J' ∧ (∀ b' o, b' < w.heap.size → J' b' o = J b' o) ∧ Im J' w' ∧ res ⟨J', noM⟩ r ∧ ct' (g1 J' b cap) (.blk b cap) w'.heap[b]?
theorem allK_sameJ {g g' : Gh} (hJ : g.J.le g'.J) : ∀ {ks : List Know} {vs : List Value}, (∀ k ∈ ks, KDep k []) → allK g ks vs → allK g' ks vs
  | [], [], _, _ => trivial
  | [], _ :: _, _, h => h.elim
  | _ :: _, [], _, h => h.elim
  | k :: ks, v :: vs, hk, h => ⟨(hk k List.mem_cons_self).dep hJ (fun _ h => by cases h) h.1, allK_sameJ hJ (fun x hx => hk x (List.mem_cons_of_mem _ hx)) h.2⟩
theorem CtB.mk {P : Program} {f : FuncId} {fn : Func} {code : Code} {args : List Know} {res : Know} {ct ct' : Cont} {n : Nat} (hf : P.funcs[f]? = some fn) (hb : fn.body = some code) (hn : fn.ntmps = n) (hl : Nat.ble (args.length + 1) n = true) [hj : AllJ args] [hcd : CDep ct []]
    (h : ∀ w J b cap, Tr P ⟨w, J, [b], n⟩ (⟨0, true, [0], kOwnAt 0 0 b⟩ :: params 1 args) [⟨0, [], ct⟩] code (bodyPost P fn (RetB w J b cap res ct'))) : CtB P f (kOwn 0 0) args ct ct' res := by
  intro w J b cap him hJ hlt hct v vs hv hvs
  have hlen := allK_len hvs
  have hle : args.length + 1 ≤ n := Nat.le_of_ble_eq_true hl
  have hM : ∀ t bk, (g1 J b cap).M t = some bk → t = 0 ∧ bk = .blk b cap := fun t bk ht => by
    simp only [g1] at ht
    split at ht
    · rename_i e; cases ht; exact ⟨e, rfl⟩
    · cases ht
  refine calls_of_wp hf hb (h w J b cap _ (g1 J b cap) w ⟨⟨⟨rfl, rfl, rfl, Nat.le_refl _, fun _ _ _ => rfl⟩, JV.le_refl _, fun _ _ _ => rfl, him, fun t b' cap' ht => ?_, fun t t' b1 c1 c2 h1 h2 => ?_⟩, ?_, ?_, ?_, by simp, ?_, ?_, rfl, ?_⟩)
  · obtain ⟨_, e⟩ := hM _ _ ht
    cases e
    exact ⟨.inr (by simp), hlt, hJ⟩
  · rw [(hM _ _ h1).1, (hM _ _ h2).1]
  · intro t bb k hk
    simp only [look] at hk
    cases hb0 : Nat.beq 0 t with
    | true =>
      rw [hb0] at hk
      simp only [cond_true, Option.some.injEq, Prod.mk.injEq] at hk
      obtain ⟨rfl, rfl⟩ := hk
      have := Nat.eq_of_beq_eq_true hb0
      subst this
      refine ⟨fun _ => ?_, fun hf => (by cases hf)⟩
      obtain ⟨b', cap', h1, h2⟩ := hv
      obtain ⟨_, e⟩ := hM _ _ h1
      cases e
      have : ((v :: vs).toArray ++ Array.replicate (fn.ntmps - (v :: vs).toArray.size) undef).getD 0 undef = v := by
        rw [Array.getD_eq_getD_getElem?, Array.getElem?_append_left (by simp)]
        simp
      rw [this]
      exact ⟨⟨cap, by simp [g1]⟩, h2⟩
    | false =>
      rw [hb0] at hk
      obtain ⟨h1, rfl, u, hu, hku⟩ := params_hold (g := g1 J b cap) (allK_sameJ (g := ⟨J, noM⟩) (g' := g1 J b cap) (JV.le_refl _) hj.all hvs) hk
      refine ⟨fun _ => ?_, fun hf => (by cases hf)⟩
      have hu' : (v :: vs)[t]? = some u := by
        rw [show t = (t - 1) + 1 by omega]; simpa using hu
      have ht : t < (v :: vs).length := (List.getElem?_eq_some_iff.1 hu').1
      have : ((v :: vs).toArray ++ Array.replicate (fn.ntmps - (v :: vs).toArray.size) undef).getD t undef = u := by
        rw [Array.getD_eq_getD_getElem?, Array.getElem?_append_left (by simpa using ht)]
        simp only [List.getElem?_toArray]
        rw [hu']; rfl
      rw [this]; exact hku
  · intro e he
    simp only [List.mem_singleton] at he
    subst he
    exact ⟨_, by simp [g1], hct⟩
  · intro t ht
    cases hm : (g1 J b cap).M t with
    | none => exact absurd hm ht
    | some bk => simp [(hM _ _ hm).1]
  · intro e he
    rcases List.mem_cons.1 he with rfl | he
    · exact ⟨inferInstance, fun t ht => by simpa using ht⟩
    · obtain ⟨h1, h2⟩ := params_dep hj.all he
      exact ⟨h1, fun t ht => by rw [h2] at ht; cases ht⟩
  · intro e he
    simp only [List.mem_singleton] at he
    subst he
    exact ⟨hcd, fun t ht => by cases ht⟩
  · simp only [Array.size_append, List.size_toArray, Array.size_replicate, List.length_cons]; omega
section
variable {P : Program} {n : Nat} {w0 : World} {J0 : JV} {S : Slots} {M : Conts} {fn : Func} {b cap t : Nat} {ct ct' : Cont} {dep : List Nat}
end
class AllFree (ks : List Know) : Prop where
  all : ∀ k ∈ ks, KFree k
instance : AllFree [] := ⟨fun _ h => by cases h⟩
instance {k : Know} {ks : List Know} [h : KFree k] [hs : AllFree ks] : AllFree (k :: ks) := ⟨fun x hx => by
  rcases List.mem_cons.1 hx with rfl | hx
  · exact h
  · exact hs.all x hx⟩
end Go.Fl

/- Elements of an array of the call's own at a place that is not written out; parts of the elements of a row of the call's own. No program in sight. -/
namespace Go.Fl
open Go Go.RowKit
/-- A pointer to cell o of element i (of n cells) of one of the call's own rows, which has len elements. -/
def kElO (t n i len o : Nat) : Know := fun g v => i < len ∧ ∃ b cap, g.M t = some (.blk b cap) ∧ v = .pointer (some ⟨b, i * n + o, none⟩)
instance (t n i l o : Nat) : KDep (kElO t n i l o) [t] := ⟨fun _ hd ⟨h0, b, cap, h1, h2⟩ => ⟨h0, b, cap, (hd t (by simp)).trans h1, h2⟩⟩
instance {t n i l o : Nat} : OneC (kElO t n i l o) := ⟨fun ⟨_, _, _, _, h⟩ => by subst h; rfl⟩
instance (t n i l o : Nat) : KHas (kElO t n i l o) t := ⟨fun ⟨_, b, cap, h1, _⟩ => by rw [h1]; simp⟩
instance : ZeroE (eP eI (eP eI eU)) (.agg #[.int .i64 0, .int .i64 0]) (0, 0, ()) := ⟨fun _ => ⟨[.int .i64 0], [.int .i64 0], rfl, rfl, [.int .i64 0], [], rfl, rfl, rfl⟩⟩
/-- Cell o of what is encoded is the number f. -/
def CellI {α : Type} (e : Enc α) (o : Nat) (f : α → Int) : Prop := ∀ {J : JV} {ds : List Value} {x : α}, e.rd J ds x → ds[o]? = some (.int .i64 (f x))
section
variable {P : Program} {c : Ctx} {S : Slots} {M : Conts} {p : Bool} {d : Option Tmp} {ty : TypeId} {pos : String} {af : Array Edge} {gd : Option (Nat × Bool)} {x y : Operand} {b b' : Bool}
end
section
variable {P : Program} {c : Ctx} {ops : Array Oper} {S : Slots} {M : Conts} {rest : List Oper} {Q : Exit → Act → World → Prop} {x y : Operand}
variable {ty : TypeId} {pos : String} {af : Array Edge}
end
section
variable {P : Program} {c : Ctx} {ops : Array Oper} {S : Slots} {M : Conts} {rest : List Oper} {Q : Exit → Act → World → Prop}
variable {d : Nat} {ty : TypeId} {pos : String} {af : Array Edge}
end
end Go.Fl

/- Structs of integers that are equal. No program in sight. -/
namespace Go.Fl
open Go Go.RowKit
/-- A value that is a struct of integers, all of them known. -/
class KInts (k : Know) (xs : outParam (List Int)) : Prop where
  imp : ∀ {g : Gh} {v : Value}, k g v → v = .agg (xs.map (Value.int .i64)).toArray
instance {a b c : Int} : KInts (kAgg [kI a, kI b, kI c]) [a, b, c] := ⟨fun {g v} h => by
  obtain ⟨cs, rfl, h2⟩ := h
  match cs, h2 with
  | [_, _, _], ⟨rfl, rfl, rfl, _⟩ => rfl⟩
section
variable {P : Program} {c : Ctx} {S : Slots} {M : Conts} {p : Bool} {d : Option Tmp} {ty : TypeId} {pos : String} {af : Array Edge} {gd : Option (Nat × Bool)} {x y : Operand} {b b' : Bool}
end
end Go.Fl

/- Parts of rows that are immutable; functions that return a part of their argument; calls that take one of the caller's own rows for good. No program in sight. -/
namespace Go.Fl
open Go Go.RowKit
/-! ### 1. Parts of rows -/
theorem rowAt.take {α : Type} {e : Enc α} {J : JV} {b o n : Nat} {xs : List α} (h : rowAt e J b o xs) : rowAt e J b o (xs.take n) := fun i x hx => by
  rw [List.getElem?_take] at hx
  split at hx
  · exact h i x hx
  · cases hx
theorem rowAt.drop {α : Type} {e : Enc α} {J : JV} {b o n : Nat} {xs : List α} (h : rowAt e J b o xs) : rowAt e J b (o + n * e.n) (xs.drop n) := fun i x hx => by
  rw [List.getElem?_drop] at hx
  obtain ⟨ds, h1, h2⟩ := h _ x hx
  refine ⟨ds, h1, fun j v hj => ?_⟩
  have := h2 j v hj
  rwa [show o + (n + i) * e.n + j = o + n * e.n + i * e.n + j by rw [Nat.add_mul]; omega] at this
section
variable {P : Program} {c : Ctx} {S : Slots} {M : Conts} {p : Bool} {d : Option Tmp} {ty : TypeId} {pos : String} {af : Array Edge} {gd : Option (Nat × Bool)} {x y z : Operand} {b b' b'' : Bool}
/-- 'row[l:]'. -/
theorem ok_slJl {t et : TypeId} [ht : TySl P t et] {sz by' : Nat} {zz : Value} [hz : TySz P et sz by' zz] {α : Type} {e : Enc α} {xs : List α} {ik : IntKind} {i0 : Int} (hx : opK S x = some (b, kRd (eL e) xs)) (hb : p = true → b = true) (hy : opK S y = some (b', kInt ik i0)) (hb' : p = true → b' = true) (h : p = true → 0 ≤ i0 ∧ i0 ≤ xs.length) (hs : sz = e.n) :
    OpOk P c S M ⟨d, .slice t x (some y) none none, ty, pos, af, gd⟩ p (kRd (eL e) (xs.drop i0.toNat)) none :=
  OpOk.pure fun hp a g w _ _ ho => by
    have hi : a.eval y = _ := ho y (by simp [Op.operands]) b' _ hy (hb' hp)
    have hlt0 := h hp
    obtain ⟨i, rfl⟩ : ∃ i : Nat, i0 = i := ⟨i0.toNat, by omega⟩
    rw [Int.toNat_natCast]
    have hlt : i ≤ xs.length := by omega
    obtain ⟨cs, ⟨ad, cap, rfl, ⟨hl1, hl2⟩, hr⟩, h2⟩ := ho x (by simp [Op.operands]) b _ hx (hb hp)
    simp only [eL, Bool.false_eq_true, if_false, List.headD_cons] at h2
    obtain ⟨j, hj, rfl, rfl, _⟩ := hz.h
    have hun : P.underlying t = some (.slice (P.elem t)) := by rw [ht.h]; simp [Program.elem, ht.h]
    have hel : P.elem t = et := by simp [Program.elem, ht.h]
    have hsz : (sizeOf et).run P w = .ok j.size w := by simp [sizeOf, typeInfo, hj]
    refine ⟨sliced ad i xs.length cap j.size, ?_, ?_⟩
    · simp only [execOp, h2, hi, Option.map]
      rw [Sem.run_bind, run_sliceAt_slice w t _ _ _ _ hun, run_slice_l w t _ xs.length cap hun ik i (by omega) (by omega), hel]
      simp only [Result.andThen_ok, Sem.run_pure, hsz, Int.toNat_natCast]
    · have hmin : (xs.drop i).length = xs.length - i := List.length_drop
      refine ⟨[sliced ad i xs.length cap j.size], ⟨if cap = i then ad else ad.map (·.add (i * j.size)), cap - i, ?_, ⟨by rw [hmin]; omega, by rw [hmin]; omega⟩, ?_⟩, rfl⟩
      · simp only [sliced, hmin]
      · by_cases h0 : xs.drop i = []
        · exact .inl h0
        · have hne : i < xs.length := by
            rcases Nat.lt_or_ge i xs.length with h | h
            · exact h
            · exact absurd (List.drop_eq_nil_of_le h) h0
          rcases hr with rfl | ⟨bl, o, rfl, hrow⟩
          · simp at hne
          · exact .inr ⟨bl, o + i * j.size, by rw [if_neg (by omega)]; simp [Addr.add], by rw [hs]; exact hrow.drop⟩
end
end Go.Fl
